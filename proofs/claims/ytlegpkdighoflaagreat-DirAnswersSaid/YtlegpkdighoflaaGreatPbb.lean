/- A part of the proof of DirAnswers. -/
import Derived.OrdersIn
import Derived.RangeFuncCalls
import Derived.CallsIn
import Derived.TacticsInMore
import Derived.OwnWalkIn
import Derived.Sort.QuietThIn
import Derived.RangeFuncNested
import Derived.RangeFuncBound
import Derived.RangeFuncLeaves
import Derived.RangeFuncKeeps
import Derived.Shelf.Abstract
import Derived.Shelf.RegionOpen
import Derived.WalkKit
import Derived.Outline
import Derived.ProofKit
import Derived.OpenShut
import Derived.ShutString
import Derived.Deep.Slices
import Derived.Laws.StructEq
import Derived.Maps.OwnSet
import Derived.Maps.OwnIn
import Derived.WideKeyArr
import Derived.Test.YtlegpkdighoflaaGreatPba
set_option linter.unusedVariables false
set_option linter.unusedSimpArgs false
set_option maxRecDepth 100000
set_option maxHeartbeats 40000000
namespace Go.Proofs.YtlegpkdighoflaaGreat
open Go Go.RowKit Sh
def Ze (v:UInt64) (k:Nat):List UInt8:=(List.range 8).map fun j=>if 8-k≤j then g8 (U0 v) j else 0
@[simp] theorem D1b (v : UInt64) (k : Nat) : (Ze v k).length = 8 := by simp [Ze]
def Qc (v:UInt64):Nat→UInt64
 | 0=>v
 | k+1=>Qc v k / 256
theorem A8v (v:UInt64):∀k,(Qc v k).toNat=v.toNat / 256 ^ k
 | 0=>by simp[Qc]
 | k+1=>by
  show (Qc v k / 256).toNat=_;rw[UInt64.toNat_div,A8v v k,Nat.pow_succ,←Nat.div_div_eq_div_mul];rfl
theorem C0a (v:UInt64):Ze v 0=z8 8:=by
 rfl
theorem B7q (v:UInt64):Ze v 8=U0 v:=by
 simp[Ze,U0,g8,List.range_succ]
theorem C9q (v:UInt64) (j:Nat) (hj:j<8):(Qc v (7-j) % 256).toUInt8=g8 (U0 v) j:=by
 apply UInt8.toNat_inj.1;have e:∀k:Nat,k<8→((Qc v k % 256).toUInt8).toNat=v.toNat / 256 ^ k % 256:=fun k hk=>by
  rw[UInt64.toNat_toUInt8,UInt64.toNat_mod,A8v];have:(256:UInt64).toNat=256:=rfl;rw[this];omega
 rw[e _ (by omega)];have s:∀(k:Nat) (z:UInt64),k<64→z.toNat=k→((v >>> z).toUInt8).toNat=v.toNat / 2 ^ k % 256:=fun k z hk hz=>by
  rw[UInt64.toNat_toUInt8,UInt64.toNat_shiftRight,hz,Nat.mod_eq_of_lt hk,Nat.shiftRight_eq_div_pow]
 match j,hj with
 | 0,_=>exact (s 56 56 (by decide) rfl).symm
 | 1,_=>exact (s 48 48 (by decide) rfl).symm
 | 2,_=>exact (s 40 40 (by decide) rfl).symm
 | 3,_=>exact (s 32 32 (by decide) rfl).symm
 | 4,_=>exact (s 24 24 (by decide) rfl).symm
 | 5,_=>exact (s 16 16 (by decide) rfl).symm
 | 6,_=>exact (s 8 8 (by decide) rfl).symm
 | 7,_=>show v.toNat / 256 ^ 0 % 256=(v.toUInt8).toNat;rw[UInt64.toNat_toUInt8];simp
theorem C0c (v:UInt64) (j:Nat) (hj:j<8):(Ze v (7-j)).set j (Qc v (7-j) % 256).toUInt8=Ze v (7-j+1):=by
 rw[C9q v j hj];apply List.ext_getElem?;intro i;unfold Ze;rw[List.getElem?_set];by_cases h:j=i
 ·subst h;rw[if_pos rfl,if_pos (by simp;omega),List.getElem?_map,List.getElem?_range (by omega)];simp only[Option.map_some];rw[if_pos (by omega)]
 ·rw[if_neg h,List.getElem?_map,List.getElem?_map];by_cases hi:i<8
  ·rw[List.getElem?_range hi];simp only[Option.map_some];congr 1;by_cases h2:8-(7-j)≤i
   ·rw[if_pos h2,if_pos (by omega)]
   ·rw[if_neg h2,if_neg (by omega)]
  ·rw[List.getElem?_eq_none (by simp;omega)];rfl
theorem B8k (v:UInt64) (k:Nat):Qc v (k+1)=Qc v k / 256:=rfl
attribute [irreducible] Ze Qc
theorem B1j (v:UInt64) (w:World):Calls Tryz.prog 59 #[.int .u64 (J4 v)] w fun e w'=>∃u,e=.returned u∧P9 w' w.heap.size u (U0 v)∧Below w.heap.size w w':=by
 obtain⟨W0,aB⟩:=F9 (w.alloc (Obj.cells (c8 (z8 8)).toArray 5));have B0:=BA' aB;have K0:Bk W0 w.heap.size 5 (c8 (Ze v 0)):=by rw[aB,C0a];exact Bk.new w _ _
 have S0:Qc v 0=v:=by unfold Qc;rfl
 go_enter Tryz.func59,Tryz.ntmps59;go_wp2_with (refine Vc rfl _ _ rfl 8 _ _ rfl rfl (by decide) ?_);rw[←aB];clear aB;go_loopw [0,4] (fun x i wr=>∃j:Nat,j≤8∧x=.int .u64 (J4 (Qc v (8-j)))∧i=.int .i64 ((j:Int)-1)∧Bk wr w.heap.size 5 (c8 (Ze v (8-j)))∧Below w.heap.size w wr) (fun _ i _=>(intOf i+1).toNat)
 case atStart=>exact ⟨8,by omega,by rw[show 8-8=0 from rfl,S0],rfl,K0,B0⟩
 case round=>
  clear K0 B0 S0;obtain⟨j,hj,rfl,rfl,K,B⟩:=hrel;cases j with
  | zero=>
   have e1:decide (0≤((0:Nat):Int)-1)=false:=by decide
   have e2:8-0=8:=rfl;rw[e2,B7q]at K;go_wp2_with fail;go_ret;exact ⟨_,rfl,⟨rfl,.inr ⟨w.heap.size,8,(c8 (U0 v)).toArray,rfl,Nat.le_refl _,K,Nat.le_refl _,by decide,rfl,rfl⟩⟩,B⟩
  | succ j=>
   have e0:(((j+1:Nat):Int)-1)=(j:Int):=by omega
   have e1:8-(j+1)=7-j:=by omega
   have e2:7-j+1=8-j:=by omega
   rw[e0];rw[e1]at K ⊢;have aA:=C0c v j (by omega);rw[e2]at aA;have hq:Qc v (8-j)=Qc v (7-j) / 256:=by rw[←e2,B8k]
   have hr:=B9x (Qc v (7-j));have hd:=B9w (Qc v (7-j));have hc:wr.cell? ⟨w.heap.size,j,none⟩=some (.int .u8 (n8 (g8 (Ze v (7-j)) j))):=K.at_ (Eb (by simp;omega));have hf:=K.frozen j;have aC:decide (0≤(j:Int))=true:=decide_eq_true (by omega);go_wp2_with fail;go_roundw;case rel=>exact ⟨j,by omega,by rw[hq],by go_num,by rw[←aA];exact (by rw[←Fp];exact K.set_ j _),B.setCell (Nat.le_refl _) _⟩
   case measure=>simp[intOf]
section
variable {F : Fence} {n : Nat} {P : Program} {ops : Array Oper} {md : Region.Mode} {S : World → Prop}
variable {l : List Oper} {Q : Exit → Act → World → Prop} {a : Act} {w : World}
end
section
attribute [local go_sem] Oper.semAt_some
end
section
variable {H : Type} {enc : TypeId × Value → H} {P : Program} {w : World} {base : Nat} {spare : Nat → Bool} {held : Bool}
theorem D3o {n:Int} (h:(Lit.int .u8 n).wf=true):n=n8 (UInt8.ofNat n.toNat):=by
 have hb:=bounds_u8 h;unfold n8;rw[UInt8.toNat_ofNat'];omega
end
section
variable {H : Type} {enc : TypeId × Value → H} {P : Program} {w : World} {base : Nat} {spare : Nat → Bool} {held : Bool}
theorem C6a {t e:TypeId} (ht:P.underlying t=some (.array 32 e)) (he:P.underlying e=some (.int .u8)) (hc:P.cellsOf e=1) (hct:P.cellsOf t=32) {fuel:Nat} {cs:List Value} {x:DataW H×List MemPlace}
 (h:DataW.trod enc P w base spare held fuel t cs=some x):∃l:List UInt8,cs=c8 l∧l.length=32:=by
 obtain⟨xs,m,_,_,hl,aC,aB⟩:=DataW.trod_array ht h;rw[hct]at hl;have aA:∀i,i<32→∃b:UInt8,cs[i]?=some (v8 b):=by
  intro i hi;have h1:=aB i hi;rw[hc,Nat.mul_one,List.getElem?_eq_getElem (by omega)]at h1;obtain⟨n,hn,_,hw⟩:=DataW.trod_int he h1;refine ⟨UInt8.ofNat n.toNat,?_⟩;rw[v8,←D3o hw];have h2:=congrArg (fun l=>l[0]?) hn;simpa [List.getElem?_take,List.getElem?_drop] using h2
 refine ⟨cs.map fun c=>match c with | .int _ n=>UInt8.ofNat n.toNat | _=>0,?_,by simpa using hl⟩;apply List.ext_getElem?;intro i;by_cases hi:i<32
 ·obtain⟨b,hb⟩:=aA i hi;simp only[c8,List.getElem?_map,hb,Option.map_some,Option.some.injEq];unfold v8 n8;simp
 ·rw[List.getElem?_eq_none (by omega),List.getElem?_eq_none (by simp[c8];omega)]
theorem open_h32 {r:Reach} {b0:Nat} {t e:TypeId} {v:Value} {d:DataW H} {ps:List MemPlace} (ht:P.underlying t=some (.array 32 e)) (he:P.underlying e=some (.int .u8)) (hc:P.cellsOf e=1) (hct:P.cellsOf t=32)
 (hval:Value.okWide P w r b0 t v) (hd:DataW.Trod enc P w base spare held t v d ps):∃l:List UInt8,v=A8 l∧l.length=32:=by
 unfold Value.okWide at hval;rw[ht]at hval;obtain⟨cs,rfl,_,_⟩:=hval;obtain⟨aA,hf⟩:=hd;obtain⟨l,h1,h2⟩:=C6a ht he hc hct hf;refine ⟨l,?_,h2⟩;simp only[Value.cells]at h1;rw[A8,←h1]
end
section
open Go.ChangeAt Go.ChangeShapes Go.WideShapes
section
variable {H : Type} {enc : TypeId × Value → H} {P : Program} {w : World} {base : Nat} {spare : Nat → Bool} {held : Bool}
end
noncomputable def A1x:Field:=(X6 Tryz.prog 96).getD 0 default
noncomputable def A0a:Field:=(X6 Tryz.prog 96).getD 1 default
end
theorem C8y:(Tryz.prog.fieldsOf 96).toList=[A1x,A0a]:=by kernel_rfl
theorem D0u:Tryz.prog.underlying 96=some (.struct (Tryz.prog.fieldsOf 96)):=by kernel_rfl
theorem pf0 : (A1x.name, A1x.type, A1x.offset) = ("Key", 23, 0) := by kernel_rfl
theorem pf1 : (A0a.name, A0a.type, A0a.offset) = ("Value", 23, 32) := by kernel_rfl
theorem A9f (w:World) (l:List UInt8) (o:Nat) (h:o+32≤l.length):(part 23 (c8 l).toArray o).run Tryz.prog w=.ok (A8 ((l.drop o).take 32)) w:=by
 have hi:(Tryz.prog.info? 23).map (·.size)=some 32:=P6;cases hq:Tryz.prog.info? 23 with
 | none=>simp[hq]at hi
 | some j=>
  have hj:j.size=32:=by simpa [hq] using hi
  have e:(c8 l).toArray.extract o (o+32)=(c8 ((l.drop o).take 32)).toArray:=by apply Array.ext';simp[c8,List.extract_eq_take_drop,List.map_take,List.map_drop]
  unfold part isAgg;simp only[Sem.run_bind,run_underlying Tryz.underlying23,Result.andThen_ok,Sem.run_pure,if_true,sizeOf,typeInfo];simp[hq,hj,e,A8];simp[c8,List.map_take,List.map_drop]
theorem A5k {P : Program} (w : World) (d : Nat) (xs ys : Array Value) (f0 f1 : Field) (a0 b0 a1 b1 : Value) (r0 r1 : Bool) (n0 : f0.name ≠ "_") (n1 : f1.name ≠ "_")
 (p0:(part f0.type xs f0.offset).run P w=.ok a0 w) (q0:(part f0.type ys f0.offset).run P w=.ok b0 w) (e0:(Op.equalIn d f0.type a0 b0).run P w=.ok r0 w)
 (p1:(part f1.type xs f1.offset).run P w=.ok a1 w) (q1:(part f1.type ys f1.offset).run P w=.ok b1 w) (e1:(Op.equalIn d f1.type a1 b1).run P w=.ok r1 w):(Op.eqFields d xs ys [f0,f1]).run P w=.ok (r0&&r1) w:=by
 unfold Op.eqFields;rw[if_pos n0];simp only[Sem.run_bind,p0,q0,e0,Result.andThen_ok];cases r0
 ·simp
 ·simp only[Bool.not_true,Bool.false_eq_true,if_false];unfold Op.eqFields;rw[if_pos n1];simp only[Sem.run_bind,p1,q1,e1,Result.andThen_ok];cases r1
  ·simp
  ·simp[Op.eqFields]
theorem D4t {p q:Pr} (hp:Jb p) (hq:Jb q):(pb p==pb q)=((p.1==q.1)&&(p.2==q.2)):=by
 rw[Bool.eq_iff_iff];simp only[beq_iff_eq,Bool.and_eq_true,pb];constructor
 ·intro h;exact List.append_inj h (by rw[hp.1,hq.1])
 ·rintro ⟨h1,h2⟩;rw[h1,h2]
theorem C9w (w:World):(sizeOf 5).run Tryz.prog w=.ok 1 w:=by
 cases hq:Tryz.prog.info? 5 with
 | none=>have:=A4s;simp[hq]at this
 | some j=>have:=A4s;simp[hq]at this;simp[sizeOf,typeInfo,hq,this]
theorem Pk (w:World) (d:Nat) (xs ys:List UInt8) (hx:xs.length=32) (hy:ys.length=32):(Op.equalIn (d+2) 23 (A8 xs) (A8 ys)).run Tryz.prog w=.ok (xs==ys) w:=
 run_equalIn_bytes (P:=Tryz.prog) w d 23 5 32 Tryz.underlying23 Tryz.underlying5 C9w xs ys hx hy
theorem B0e (w:World) (r:Pr) (hr:Jb r):(part 23 (c8 (pb r)).toArray 0).run Tryz.prog w=.ok (A8 r.1) w:=by
 have h0:=A9f w (pb r) 0 (by rw[hr.len];omega);have k0:((pb r).drop 0).take 32=r.1:=by simp[pb,hr.1]
 exact h0.trans (congrArg (fun l=>Result.ok (A8 l) w) k0)
theorem A9l (w:World) (r:Pr) (hr:Jb r):(part 23 (c8 (pb r)).toArray 32).run Tryz.prog w=.ok (A8 r.2) w:=by
 have h0:=A9f w (pb r) 32 (by rw[hr.len];omega);have k0:((pb r).drop 32).take 32=r.2:=by simp[pb,hr.1,hr.2,List.take_of_length_le]
 exact h0.trans (congrArg (fun l=>Result.ok (A8 l) w) k0)
theorem E3e:Tryz.prog.stoodInHeld 96=false:=by kernel_rfl
theorem Wl (w:World) (d:Nat) (p q:Pr) (hp:Jb p) (hq:Jb q):(Op.equalIn (d+3) 96 (A8 (pb p)) (A8 (pb q))).run Tryz.prog w=.ok (pb p==pb q) w:=by
 have e0:=pf0;have e1:=pf1;simp only[Prod.mk.injEq]at e0 e1;obtain⟨n0,t0,o0⟩:=e0;obtain⟨n1,t1,o1⟩:=e1;rw[D4t hp hq];refine (run_equalIn_struct (P:=Tryz.prog) w (d+2) 96 (c8 (pb p)).toArray (c8 (pb q)).toArray D0u E3e).trans ?_;rw[C8y];refine A5k w (d+2) _ _ A1x A0a (A8 p.1) (A8 q.1) (A8 p.2) (A8 q.2) _ _ (by rw[n0];decide) (by rw[n1];decide) ?_ ?_ ?_ ?_ ?_ ?_
 ·rw[t0,o0];exact B0e w p hp
 ·rw[t0,o0];exact B0e w q hq
 ·rw[t0];exact Pk w d _ _ hp.1 hq.1
 ·rw[t1,o1];exact A9l w p hp
 ·rw[t1,o1];exact A9l w q hq
 ·rw[t1];exact Pk w d _ _ hp.2 hq.2
theorem B8t:Tryz.prog.eqGuardType Tryz.prog.depth 96=false:=by kernel_rfl
noncomputable def A7i (v:Value):Option Pr:=match Ec v with | some l=>if l.length=64 then some (l.take 32,l.drop 32) else none | none=>none
noncomputable def D2h (neg:Bool) (w:World) (raw:Result Next) (a b:Value):Result Next:=
 match A7i a,A7i b with
 | some p,some q=>.ok (.value (.bool (neg != (pb p==pb q)))) w
 | _,_=>raw
theorem A4f {v:Value} {p:Pr} (h:A7i v=some p):v=A8 (pb p)∧Jb p:=by
 unfold A7i at h;cases hl:Ec v with
 | none=>rw[hl]at h;cases h
 | some l=>
  rw[hl]at h;simp only at h;split at h
  ·rename_i h64
   injection h with h;subst h;refine ⟨?_,by simp[Jb,h64]⟩;rw[Y9 hl];simp[pb]
  ·cases h
@[go_sem ↓ high] theorem D8k (w : World) (ρ : Operand → Value) (dst : Option Tmp) (ty : TypeId) (pos : String) (after : Array Edge) (guard : Option (Nat × Bool)) (x y : Operand) (yt : TypeId) :
 (execOp ρ { dst,op:=.binOp .neq 96 x y yt,type:=ty,pos,after,guard }).run Tryz.prog w=D2h true w (Q0 Tryz.prog ρ { dst,op:=.binOp .neq 96 x y yt,type:=ty,pos,after,guard } w) (ρ x) (ρ y):=by
 generalize hv:ρ x=a;generalize hz:ρ y=b;unfold D2h;split
 ·rename_i p q h1 h2
  obtain⟨h1,hp⟩:=A4f h1;obtain⟨h2,hq⟩:=A4f h2;have aA:(eqGuard .neq 96 x y a b).run Tryz.prog w=.ok () w:=by rw[h1,h2];exact run_eqGuard_agg (P:=Tryz.prog) w .neq 96 x y _ _ B8t
  have e1:(binOp .neq 96 a b).run Tryz.prog w=.ok (.bool (!(pb p==pb q))) w:=by rw[h1,h2,A8,A8,run_neq_struct];exact congrArg (fun r:Result Bool=>r.andThen fun b w'=>Result.ok (Value.bool (!b)) w') (Wl w 9997 p q hp hq)
  simp only[execOp,hv,hz,Sem.run_bind,aA,Result.andThen_ok,e1,Sem.run_pure];simp
 ·rfl
section
@[go_sem ↓ high] theorem A2a {P : Program} {w : World} (l : Nat) (ρ : Operand → Value) (o : Oper) (h : (match o.op with | .defer _ => false | _ => true) = true) : (Oper.semAt (some l) ρ o).run P w = (execOp ρ o).run P w := by
 rw[Oper.semAt_eq];intro c e;rw[e]at h;cases h
@[go_sem ↓ high] theorem B5s {P : Program} {w : World} (F : Fence) (l : Nat) (ρ : Operand → Value) (o : Oper) (h : (match o.op with | .defer _ => false | _ => true) = true) : (Oper.semAt (F.inRound l).round ρ o).run P w = (execOp ρ o).run P w := A2a l ρ o h
attribute [local go_sem] Oper.semAt_some
theorem Iw {A B:World} {row:Option Nat} {g:Nat} {t:TypeId} {cs:List Value} (h:Bk A g t cs) (hg:A.grownBy B row) (hr:∀r,row=some r→∃o:Obj,A.heap[r]?=some o∧o.isCells=false):Bk B g t cs:=by
 refine h.grown hg fun e=>?_;obtain⟨o,ho,hc⟩:=hr g e.symm;unfold Bk at h;rw[h]at ho;injection ho with ho;subst ho;cases hc
end
section
attribute [local go_sem] Oper.semAt_some
theorem A8q (t:Tr) (p:Value) (d:Int) (w:World) (h:At w w.heap.size t p) (hl:t.len≠1) :
 Calls Tryz.prog 82 #[.agg #[p,.int .i64 d]] w fun e w'=>e=.returned (.tuple #[A8 (z8 32),A8 (z8 32),.bool false])∧Below w.heap.size w w':=by
 obtain⟨ap,rfl⟩:=h.form;have aB:((t.len:Int) != 1)=true:=by rw[bne_iff_ne];omega
 go_enter Tryz.func82,Tryz.ntmps82;go_wp2_with fail;obtain⟨w0,aA⟩:=F9 (((w.alloc (Obj.cells #[.pointer ap,.int .i64 d] 31)).alloc (Obj.cells (c8 (z8 32)).toArray 23)).alloc (Obj.cells (c8 (z8 32)).toArray 23));rw[←aA];have B0:Below w.heap.size w w0:=by rw[aA];exact ((Aw _ _).alloc (by simp) _).alloc (by simp;omega) _
 have L0:Bk w0 (w.heap.size+1) 23 (c8 (z8 32)):=by rw[aA];exact (by simpa using Bk.new (w.alloc (Obj.cells #[.pointer ap,.int .i64 d] 31)) 23 (c8 (z8 32)):Bk _ _ _ _).alloc _
 have R0:Bk w0 (w.heap.size+1+1) 23 (c8 (z8 32)):=by rw[aA];simpa using Bk.new ((w.alloc (Obj.cells #[.pointer ap,.int .i64 d] 31)).alloc (Obj.cells (c8 (z8 32)).toArray 23)) 23 (c8 (z8 32))
 clear aA;refine (Kg t _ d w0 ((h.below B0).more B0.size)).mono ?_;rintro e w1 ⟨rfl,h1⟩;have L1:=L0.bl h1;have R1:=R0.bl h1;have B1:=K9 B0 h1;have aC:=Gy 32 L1 (by simp);have aD:=Gy 32 R1 (by simp);go_wp2_with fail;have La:=(L1.puts (vs:=c8 (z8 32)) (by simp)).putFar (p:=⟨w.heap.size+1+1,0,none⟩) (by simp) (c8 (z8 32));have Ra:=(R1.putFar (p:=⟨w.heap.size+1,0,none⟩) (by simp) (c8 (z8 32))).puts (vs:=c8 (z8 32)) (by simp);exact bodyPost_ret (Dn rfl (M7.row La rfl _ Tryz.underlying23 rfl (by simp[P6])) (M7.row Ra rfl _ Tryz.underlying23 rfl (by simp[P6])) (M7.tmp rfl)) rfl
  ⟨rfl,C5 (C5 B1 (by simp) _) (by simp;omega) _⟩
theorem B9b (k v:List UInt8) (p:Value) (d:Int) (w:World) (h:At w w.heap.size (.lf k v) p) :
 Calls Tryz.prog 82 #[.agg #[p,.int .i64 d]] w fun e w'=>e=.returned (.tuple #[A8 k,A8 v,.bool true])∧Below w.heap.size w w':=by
 have aB:=h;obtain⟨g,rfl,hg,hk,hv,hb⟩:=h;go_enter Tryz.func82,Tryz.ntmps82;go_wp2_with fail;obtain⟨w0,aA⟩:=F9 (((w.alloc (Obj.cells #[.pointer (some ⟨g,0,none⟩),.int .i64 d] 31)).alloc (Obj.cells (c8 (z8 32)).toArray 23)).alloc (Obj.cells (c8 (z8 32)).toArray 23));rw[←aA];have B0:Below w.heap.size w w0:=by rw[aA];exact ((Aw _ _).alloc (by simp) _).alloc (by simp;omega) _
 have T0:Bk w0 w.heap.size 31 [.pointer (some ⟨g,0,none⟩),.int .i64 d]:=by rw[aA];exact ((Bk.new w _ [.pointer (some ⟨g,0,none⟩),.int .i64 d]).alloc _).alloc _
 have L0:Bk w0 (w.heap.size+1) 23 (c8 (z8 32)):=by rw[aA];exact (by simpa using Bk.new (w.alloc (Obj.cells #[.pointer (some ⟨g,0,none⟩),.int .i64 d] 31)) 23 (c8 (z8 32)):Bk _ _ _ _).alloc _
 have R0:Bk w0 (w.heap.size+1+1) 23 (c8 (z8 32)):=by rw[aA];simpa using Bk.new ((w.alloc (Obj.cells #[.pointer (some ⟨g,0,none⟩),.int .i64 d] 31)).alloc (Obj.cells (c8 (z8 32)).toArray 23)) 23 (c8 (z8 32))
 clear aA;refine (Kg (.lf k v) _ d w0 ((aB.below B0).more B0.size)).mono ?_;rintro e w1 ⟨rfl,h1⟩;have T1:=T0.bl h1;have L1:=L0.bl h1;have R1:=R0.bl h1;have B1:=K9 B0 h1;have N1:=hb.below B1 hg;dsimp only[Tr.len];clear h1 aB hb T0 L0 R0 B0;go_wp2_with fail;refine Lp (A:=?A) (fun W=>Below (w.heap.size+1) w1 W) [0,1,2,3,4,5,6,7,8,9] [10,11,12] (by kernel_rfl) (by kernel_rfl) (by kernel_rfl) (by kernel_rfl) rfl rfl (by kernel_rfl) (by kernel_rfl) ?rS (fun W hW=>?rh) (fun hS=>?rt);case rS=>exact (Below.refl _ _).drew
 case rh=>have T2:=T1.below hW (by omega);have N2:=N1.below hW (by omega);have c0:W.cell? ⟨w.heap.size,0,none⟩=some (.pointer (some ⟨g,0,none⟩)):=T2.at_ rfl;have aC:=A3f N2 hk;have aD:=B2k N2 hk hv;clear T2 N2;exact Ei
 case rt=>
  simp only[Dh,Ul];have S1:Below (w.heap.size+1) w1 w1.drew:=(Below.refl _ _).drew;have aE:=Gy 32 L1 (by simp);have aF:=Gy 32 R1 (by simp);refine M5 (by rfl) (fun Q' hQ'=>?_);go_wp2_with fail;have S2:=C5 S1 (a:=⟨w.heap.size+1,0,none⟩) (by simp) (c8 k);refine hQ' _ _ S2 ?_;clear hQ';refine M5 (by rfl) (fun Q' hQ'=>?_);go_wp2_with fail;have S3:=C5 S2 (a:=⟨w.heap.size+1+1,0,none⟩) (by simp) (c8 v);refine hQ' _ _ S3 ?_;clear hQ';refine M5 (by rfl) (fun Q' hQ'=>?_);go_wp2_with fail;refine hQ' _ _ S3 ?_;clear hQ';refine Ic ?_;go_wp2_with fail;have La:=(L1.drew.puts (vs:=c8 k) (by simp[hk])).putFar (p:=⟨w.heap.size+1+1,0,none⟩) (by simp) (c8 v);have Ra:=(R1.drew.putFar (p:=⟨w.heap.size+1,0,none⟩) (by simp) (c8 k)).puts (vs:=c8 v) (by simp[hv]);exact bodyPost_ret (Dn rfl (M7.row La rfl _ Tryz.underlying23 rfl (by simp[P6,hk])) (M7.row Ra rfl _ Tryz.underlying23 rfl (by simp[P6,hv])) (M7.tmp rfl)) rfl
   ⟨rfl,C5 (C5 B1.drew (by simp) _) (by simp;omega) _⟩
end
theorem B5x:WideMaps.ArrKey Tryz.prog 23 5 32:=⟨Tryz.underlying23,by kernel_rfl,by kernel_rfl,by kernel_rfl⟩
theorem Li:Maps.Keyed Tryz.prog 23:=Maps.Keyed.of_law B5x.law
theorem B4e:∃m,Tryz.prog.types.size=m+1:=⟨Tryz.prog.types.size-1,by kernel_rfl⟩
theorem A4u {α β:Type} {f:α→Option β}:∀(l:List α),(∀x∈l,∃y,f x=some y)→∃ys,l.mapM f=some ys
 | [],_=>⟨[],rfl⟩
 | x::l,h=>by
  obtain⟨y,hy⟩:=h x (by simp);obtain⟨ys,aA⟩:=A4u l (fun z hz=>h z (by simp[hz]));exact ⟨y::ys,by simp[List.mapM_cons,hy,aA]⟩
theorem D8p (x:UInt8):(Lit.int .u8 (n8 x)).wf=true:=by
 have:=x.toNat_lt;simp[Lit.wf,n8,IntKind.min,IntKind.max,IntKind.bits,IntKind.signed];omega
theorem C4l {P:Program} {k e:TypeId} (A:WideMaps.ArrKey P k e 32) (he:P.underlying e=some (.int .u8)) (hsz:∃m,P.types.size=m+1) {l:List UInt8} (hl:l.length=32):∃kl,keyOf P k (A8 l)=some kl:=by
 have aA:=A.keyType hsz;obtain⟨m,hm⟩:=hsz;unfold keyOf;simp only[A.hu];rw[if_pos (by simp[aA,Value.formed,A.hu,A.size,A8,hl]),hm];unfold Program.keyLits;simp only[A.hu,Value.cells,A8];rw[if_pos (by rw[A.size];simp[hl])];obtain⟨ys,aB⟩:∃ys,(List.range 32).mapM (fun i=>P.keyLits (m+1) e (((c8 l).drop (i*P.cellsOf e)).take (P.cellsOf e)))=some ys:=by
  refine A4u _ fun i hi=>?_;have hi:i<32:=by simpa using hi
  obtain⟨x,hx⟩:∃x,l[i]?=some x:=⟨_,List.getElem?_eq_getElem (by omega)⟩;have e1:((c8 l).drop (i*1)).take 1=[v8 x]:=by
   rw[Nat.mul_one];obtain⟨aC,rfl⟩:=List.getElem?_eq_some_iff.1 hx;rw[List.drop_eq_getElem_cons (by simpa using aC)];simp[c8]
  rw[A.one,e1];unfold Program.keyLits;simp only[he,v8];rw[if_pos ⟨trivial,D8p x⟩];exact ⟨_,rfl⟩
 simp only[aB];exact ⟨_,rfl⟩
theorem C5q (l:List UInt8) (hl:l.length=32):∃kl,keyOf Tryz.prog 23 (A8 l)=some kl:=C4l B5x Tryz.underlying5 B4e hl
noncomputable def A2b (P:Program) (k:TypeId) (l:List UInt8):Lit:=(keyOf P k (A8 l)).getD (.bool false)
theorem B1d {P:Program} {k:TypeId} {l:List UInt8} (h:∃kl,keyOf P k (A8 l)=some kl):keyOf P k (A8 l)=some (A2b P k l):=by
 obtain⟨kl,h⟩:=h;rw[A2b,h];rfl
noncomputable def A1a (l:List UInt8):Lit:=A2b Tryz.prog 23 l
theorem Rs {l:List UInt8} (hl:l.length=32):keyOf Tryz.prog 23 (A8 l)=some (A1a l):=B1d (C5q l hl)
theorem B9t {P:Program} {k:TypeId} (K:Maps.Keyed P k) {l:List UInt8} (h:∃kl,keyOf P k (A8 l)=some kl):WideAt.IsKeyLit (A2b P k l):=by
 have h1:=B1d h;generalize A2b P k l=q at *;exact K.key h1
theorem C3m:∀l,A1a l=A2b Tryz.prog 23 l:=fun l=>rfl
attribute [irreducible] A1a A2b
theorem A7x {l:List UInt8} (hl:l.length=32):WideAt.IsKeyLit (A1a l):=by
 have h:=B9t Li (C5q l hl);rw[←C3m]at h;exact h
theorem C6v {l m:List UInt8} (hl:l.length=32) (hm:m.length=32) (h:l≠m):A1a l≠A1a m:=fun e=>h (C4x (Li.inj (Rs hl) (by rw[e];exact Rs hm)))
section
theorem A7e {W W':World} {B:Nat} {row:Option Nat} (hg:W.grownBy W' row) (hr:∀r,row=some r→∃o:Obj,W.heap[r]?=some o∧o.isCells=false):∀ {t:Tr} {p:Value},At W B t p→At W' B t p
 | .e,_,h=>h
 | .lf _ _,_,⟨g',h1,h2,h3,h4,h5⟩=>⟨g',h1,h2,h3,h4,Iw h5 hg hr⟩
 | .nd _ _,_,⟨g',pl,pr,h1,h2,h3,h4,h5⟩=>⟨g',pl,pr,h1,h2,Iw h3 hg hr,A7e hg hr h4,A7e hg hr h5⟩
section
variable {F : Fence} {nF : Nat} {Q : Exit → Act → World → Prop} {ops : Array Oper} {rest : List Oper} {o : Oper} {a : Act} {w : World}
end
end
end Go.Proofs.YtlegpkdighoflaaGreat
