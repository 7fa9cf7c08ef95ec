/- A part of the proof of DirBuilds. -/
import Derived.ProofKit
import Derived.OpenShut
import Derived.ShutString
import Derived.Deep.Slices
import Derived.Laws.StructEq
import Derived.RangeFuncNested
import Derived.Outline
import Derived.Maps.OwnSet
import Derived.Maps.OwnIn
import Derived.WideKeyArr
import Derived.Test.YtlegpkdighoflaaGreatSbb
set_option linter.unusedVariables false
set_option linter.unusedSimpArgs false
set_option maxRecDepth 100000
set_option maxHeartbeats 40000000
namespace Go.Proofs.YtlegpkdighoflaaGreat
open Go Go.RowKit Sh
section
variable {H : Type} {enc : TypeId × Value → H} {P : Program} {w : World} {base : Nat} {spare : Nat → Bool} {held : Bool}
theorem D7k {n:Int} (h:(Lit.int .u8 n).wf=true):n=n8 (UInt8.ofNat n.toNat):=by
 have hb:=bounds_u8 h;unfold n8;rw[UInt8.toNat_ofNat'];omega
end
section
variable {H : Type} {enc : TypeId × Value → H} {P : Program} {w : World} {base : Nat} {spare : Nat → Bool} {held : Bool}
theorem C5w {t e:TypeId} (ht:P.underlying t=some (.array 32 e)) (he:P.underlying e=some (.int .u8)) (hc:P.cellsOf e=1) (hct:P.cellsOf t=32) {fuel:Nat} {cs:List Value} {x:DataW H×List MemPlace}
 (h:DataW.trod enc P w base spare held fuel t cs=some x):∃l:List UInt8,cs=c8 l∧l.length=32:=by
 obtain⟨xs,m,_,_,hl,aC,aB⟩:=DataW.trod_array ht h;rw[hct]at hl;have aA:∀i,i<32→∃b:UInt8,cs[i]?=some (v8 b):=by
  intro i hi;have h1:=aB i hi;rw[hc,Nat.mul_one,List.getElem?_eq_getElem (by omega)]at h1;obtain⟨n,hn,_,hw⟩:=DataW.trod_int he h1;refine ⟨UInt8.ofNat n.toNat,?_⟩;rw[v8,←D7k hw];have h2:=congrArg (fun l=>l[0]?) hn;simpa [List.getElem?_take,List.getElem?_drop] using h2
 refine ⟨cs.map fun c=>match c with | .int _ n=>UInt8.ofNat n.toNat | _=>0,?_,by simpa using hl⟩;apply List.ext_getElem?;intro i;by_cases hi:i<32
 ·obtain⟨b,hb⟩:=aA i hi;simp only[c8,List.getElem?_map,hb,Option.map_some,Option.some.injEq];unfold v8 n8;simp
 ·rw[List.getElem?_eq_none (by omega),List.getElem?_eq_none (by simp[c8];omega)]
end
section
open Go.ChangeAt Go.ChangeShapes Go.WideShapes
section
variable {H : Type} {enc : TypeId × Value → H} {P : Program} {w : World} {base : Nat} {spare : Nat → Bool} {held : Bool}
end
noncomputable def Zk:Field:=(Q0 Tryz.prog 96).getD 0 default
noncomputable def A3c:Field:=(Q0 Tryz.prog 96).getD 1 default
end
theorem D2d:(Tryz.prog.fieldsOf 96).toList=[Zk,A3c]:=by kernel_rfl
theorem D1i:Tryz.prog.underlying 96=some (.struct (Tryz.prog.fieldsOf 96)):=by kernel_rfl
theorem pf0 : (Zk.name, Zk.type, Zk.offset) = ("Key", 23, 0) := by kernel_rfl
theorem pf1 : (A3c.name, A3c.type, A3c.offset) = ("Value", 23, 32) := by kernel_rfl
theorem A9r (w:World) (l:List UInt8) (o:Nat) (h:o+32≤l.length):(part 23 (c8 l).toArray o).run Tryz.prog w=.ok (A8 ((l.drop o).take 32)) w:=by
 have hi:(Tryz.prog.info? 23).map (·.size)=some 32:=N6;cases hq:Tryz.prog.info? 23 with
 | none=>simp[hq]at hi
 | some j=>
  have hj:j.size=32:=by simpa [hq] using hi
  have e:(c8 l).toArray.extract o (o+32)=(c8 ((l.drop o).take 32)).toArray:=by apply Array.ext';simp[c8,List.extract_eq_take_drop,List.map_take,List.map_drop]
  unfold part isAgg;simp only[Sem.run_bind,run_underlying Tryz.underlying23,Result.andThen_ok,Sem.run_pure,if_true,sizeOf,typeInfo];simp[hq,hj,e,A8];simp[c8,List.map_take,List.map_drop]
theorem A6g {P : Program} (w : World) (d : Nat) (xs ys : Array Value) (f0 f1 : Field) (a0 b0 a1 b1 : Value) (r0 r1 : Bool) (n0 : f0.name ≠ "_") (n1 : f1.name ≠ "_")
 (p0:(part f0.type xs f0.offset).run P w=.ok a0 w) (q0:(part f0.type ys f0.offset).run P w=.ok b0 w) (e0:(Op.equalIn d f0.type a0 b0).run P w=.ok r0 w)
 (p1:(part f1.type xs f1.offset).run P w=.ok a1 w) (q1:(part f1.type ys f1.offset).run P w=.ok b1 w) (e1:(Op.equalIn d f1.type a1 b1).run P w=.ok r1 w):(Op.eqFields d xs ys [f0,f1]).run P w=.ok (r0&&r1) w:=by
 unfold Op.eqFields;rw[if_pos n0];simp only[Sem.run_bind,p0,q0,e0,Result.andThen_ok];cases r0
 ·simp
 ·simp only[Bool.not_true,Bool.false_eq_true,if_false];unfold Op.eqFields;rw[if_pos n1];simp only[Sem.run_bind,p1,q1,e1,Result.andThen_ok];cases r1
  ·simp
  ·simp[Op.eqFields]
theorem D5y {p q:Pr} (hp:Jh p) (hq:Jh q):(pb p==pb q)=((p.1==q.1)&&(p.2==q.2)):=by
 rw[Bool.eq_iff_iff];simp only[beq_iff_eq,Bool.and_eq_true,pb];constructor
 ·intro h;exact List.append_inj h (by rw[hp.1,hq.1])
 ·rintro ⟨h1,h2⟩;rw[h1,h2]
theorem size_u8p (w:World):(sizeOf 5).run Tryz.prog w=.ok 1 w:=by
 cases hq:Tryz.prog.info? 5 with
 | none=>have:=A3y;simp[hq]at this
 | some j=>have:=A3y;simp[hq]at this;simp[sizeOf,typeInfo,hq,this]
theorem Nx (w:World) (d:Nat) (xs ys:List UInt8) (hx:xs.length=32) (hy:ys.length=32):(Op.equalIn (d+2) 23 (A8 xs) (A8 ys)).run Tryz.prog w=.ok (xs==ys) w:=
 run_equalIn_bytes (P:=Tryz.prog) w d 23 5 32 Tryz.underlying23 Tryz.underlying5 size_u8p xs ys hx hy
theorem A9i (w:World) (r:Pr) (hr:Jh r):(part 23 (c8 (pb r)).toArray 0).run Tryz.prog w=.ok (A8 r.1) w:=by
 have h0:=A9r w (pb r) 0 (by rw[hr.len];omega);have k0:((pb r).drop 0).take 32=r.1:=by simp[pb,hr.1]
 exact h0.trans (congrArg (fun l=>Result.ok (A8 l) w) k0)
theorem B1t (w:World) (r:Pr) (hr:Jh r):(part 23 (c8 (pb r)).toArray 32).run Tryz.prog w=.ok (A8 r.2) w:=by
 have h0:=A9r w (pb r) 32 (by rw[hr.len];omega);have k0:((pb r).drop 32).take 32=r.2:=by simp[pb,hr.1,hr.2,List.take_of_length_le]
 exact h0.trans (congrArg (fun l=>Result.ok (A8 l) w) k0)
theorem E3f:Tryz.prog.stoodInHeld 96=false:=by kernel_rfl
theorem Wc (w:World) (d:Nat) (p q:Pr) (hp:Jh p) (hq:Jh q):(Op.equalIn (d+3) 96 (A8 (pb p)) (A8 (pb q))).run Tryz.prog w=.ok (pb p==pb q) w:=by
 have e0:=pf0;have e1:=pf1;simp only[Prod.mk.injEq]at e0 e1;obtain⟨n0,t0,o0⟩:=e0;obtain⟨n1,t1,o1⟩:=e1;rw[D5y hp hq];refine (run_equalIn_struct (P:=Tryz.prog) w (d+2) 96 (c8 (pb p)).toArray (c8 (pb q)).toArray D1i E3f).trans ?_;rw[D2d];refine A6g w (d+2) _ _ Zk A3c (A8 p.1) (A8 q.1) (A8 p.2) (A8 q.2) _ _ (by rw[n0];decide) (by rw[n1];decide) ?_ ?_ ?_ ?_ ?_ ?_
 ·rw[t0,o0];exact A9i w p hp
 ·rw[t0,o0];exact A9i w q hq
 ·rw[t0];exact Nx w d _ _ hp.1 hq.1
 ·rw[t1,o1];exact B1t w p hp
 ·rw[t1,o1];exact B1t w q hq
 ·rw[t1];exact Nx w d _ _ hp.2 hq.2
theorem C2e:Tryz.prog.eqGuardType Tryz.prog.depth 96=false:=by kernel_rfl
noncomputable def A8e (v:Value):Option Pr:=match Cf v with | some l=>if l.length=64 then some (l.take 32,l.drop 32) else none | none=>none
noncomputable def D4w (neg:Bool) (w:World) (raw:Result Next) (a b:Value):Result Next:=
 match A8e a,A8e b with
 | some p,some q=>.ok (.value (.bool (neg != (pb p==pb q)))) w
 | _,_=>raw
theorem A3q {v:Value} {p:Pr} (h:A8e v=some p):v=A8 (pb p)∧Jh p:=by
 unfold A8e at h;cases hl:Cf v with
 | none=>rw[hl]at h;cases h
 | some l=>
  rw[hl]at h;simp only at h;split at h
  ·rename_i h64
   injection h with h;subst h;refine ⟨?_,by simp[Jh,h64]⟩;rw[T5 hl];simp[pb]
  ·cases h
@[go_sem ↓ high] theorem E7q (w : World) (ρ : Operand → Value) (dst : Option Tmp) (ty : TypeId) (pos : String) (after : Array Edge) (guard : Option (Nat × Bool)) (x y : Operand) (yt : TypeId) :
 (execOp ρ { dst,op:=.binOp .neq 96 x y yt,type:=ty,pos,after,guard }).run Tryz.prog w=D4w true w (M6 Tryz.prog ρ { dst,op:=.binOp .neq 96 x y yt,type:=ty,pos,after,guard } w) (ρ x) (ρ y):=by
 generalize hv:ρ x=a;generalize hz:ρ y=b;unfold D4w;split
 ·rename_i p q h1 h2
  obtain⟨h1,hp⟩:=A3q h1;obtain⟨h2,hq⟩:=A3q h2;have aA:(eqGuard .neq 96 x y a b).run Tryz.prog w=.ok () w:=by rw[h1,h2];exact run_eqGuard_agg (P:=Tryz.prog) w .neq 96 x y _ _ C2e
  have e1:(binOp .neq 96 a b).run Tryz.prog w=.ok (.bool (!(pb p==pb q))) w:=by rw[h1,h2,A8,A8,run_neq_struct];exact congrArg (fun r:Result Bool=>r.andThen fun b w'=>Result.ok (Value.bool (!b)) w') (Wc w 9997 p q hp hq)
  simp only[execOp,hv,hz,Sem.run_bind,aA,Result.andThen_ok,e1,Sem.run_pure];simp
 ·rfl
section
@[go_sem ↓ high] theorem A0i {P : Program} {w : World} (l : Nat) (ρ : Operand → Value) (o : Oper) (h : (match o.op with | .defer _ => false | _ => true) = true) : (Oper.semAt (some l) ρ o).run P w = (execOp ρ o).run P w := by
 rw[Oper.semAt_eq];intro c e;rw[e]at h;cases h
@[go_sem ↓ high] theorem B6m {P : Program} {w : World} (F : Fence) (l : Nat) (ρ : Operand → Value) (o : Oper) (h : (match o.op with | .defer _ => false | _ => true) = true) : (Oper.semAt (F.inRound l).round ρ o).run P w = (execOp ρ o).run P w := A0i l ρ o h
attribute [local go_sem] Oper.semAt_some
theorem Y9 {A B:World} {row:Option Nat} {g:Nat} {t:TypeId} {cs:List Value} (h:Bk A g t cs) (hg:A.grownBy B row) (hr:∀r,row=some r→∃o:Obj,A.heap[r]?=some o∧o.isCells=false):Bk B g t cs:=by
 refine h.grown hg fun e=>?_;obtain⟨o,ho,hc⟩:=hr g e.symm;unfold Bk at h;rw[h]at ho;injection ho with ho;subst ho;cases hc
end
section
attribute [local go_sem] Oper.semAt_some
theorem B1c (t:Tr) (p:Value) (d:Int) (w:World) (h:At w w.heap.size t p) (hl:t.len≠1) :
 Calls Tryz.prog 82 #[.agg #[p,.int .i64 d]] w fun e w'=>e=.returned (.tuple #[A8 (z8 32),A8 (z8 32),.bool false])∧Below w.heap.size w w':=by
 obtain⟨ap,rfl⟩:=h.form;have aB:((t.len:Int) != 1)=true:=by rw[bne_iff_ne];omega
 go_enter Tryz.func82,Tryz.ntmps82;go_wp2_with fail;obtain⟨w0,aA⟩:∃x,x=((w.alloc (Obj.cells #[.pointer ap,.int .i64 d] 31)).alloc (Obj.cells (c8 (z8 32)).toArray 23)).alloc (Obj.cells (c8 (z8 32)).toArray 23):=⟨_,rfl⟩;rw[←aA];have B0:Below w.heap.size w w0:=by rw[aA];exact (((Below.refl _ _).alloc (Nat.le_refl _) _).alloc (by simp) _).alloc (by simp;omega) _
 have L0:Bk w0 (w.heap.size+1) 23 (c8 (z8 32)):=by rw[aA];exact (by simpa using Bk.new (w.alloc (Obj.cells #[.pointer ap,.int .i64 d] 31)) 23 (c8 (z8 32)):Bk _ _ _ _).alloc _
 have R0:Bk w0 (w.heap.size+1+1) 23 (c8 (z8 32)):=by rw[aA];simpa using Bk.new ((w.alloc (Obj.cells #[.pointer ap,.int .i64 d] 31)).alloc (Obj.cells (c8 (z8 32)).toArray 23)) 23 (c8 (z8 32))
 clear aA;refine (Df t _ d w0 ((h.below B0).more B0.size)).mono ?_;rintro e w1 ⟨rfl,h1⟩;have L1:=L0.below h1 L0.lt;have R1:=R0.below h1 R0.lt;have B1:=C0 B0 h1 B0.size;have aC:E8 w1 ⟨w.heap.size+1,0,none⟩ 32=true:=L1.can (by simp);have aD:E8 w1 ⟨w.heap.size+1+1,0,none⟩ 32=true:=R1.can (by simp);go_wp2_with fail;have La:=(L1.puts (vs:=c8 (z8 32)) (by simp)).putFar (p:=⟨w.heap.size+1+1,0,none⟩) (by simp) (c8 (z8 32));have Ra:=(R1.putFar (p:=⟨w.heap.size+1,0,none⟩) (by simp) (c8 (z8 32))).puts (vs:=c8 (z8 32)) (by simp);exact bodyPost_ret (Bv rfl (M5.row La rfl _ Tryz.underlying23 rfl (by simp[N6])) (M5.row Ra rfl _ Tryz.underlying23 rfl (by simp[N6])) (M5.tmp rfl)) rfl
  ⟨rfl,C1 (C1 B1 (by simp) _) (by simp;omega) _⟩
theorem C1y (k v:List UInt8) (p:Value) (d:Int) (w:World) (h:At w w.heap.size (.lf k v) p) :
 Calls Tryz.prog 82 #[.agg #[p,.int .i64 d]] w fun e w'=>e=.returned (.tuple #[A8 k,A8 v,.bool true])∧Below w.heap.size w w':=by
 have aB:=h;obtain⟨g,rfl,hg,hk,hv,hb⟩:=h;go_enter Tryz.func82,Tryz.ntmps82;go_wp2_with fail;obtain⟨w0,aA⟩:∃x,x=((w.alloc (Obj.cells #[.pointer (some ⟨g,0,none⟩),.int .i64 d] 31)).alloc (Obj.cells (c8 (z8 32)).toArray 23)).alloc (Obj.cells (c8 (z8 32)).toArray 23):=⟨_,rfl⟩;rw[←aA];have B0:Below w.heap.size w w0:=by rw[aA];exact (((Below.refl _ _).alloc (Nat.le_refl _) _).alloc (by simp) _).alloc (by simp;omega) _
 have T0:Bk w0 w.heap.size 31 [.pointer (some ⟨g,0,none⟩),.int .i64 d]:=by rw[aA];exact ((Bk.new w _ [.pointer (some ⟨g,0,none⟩),.int .i64 d]).alloc _).alloc _
 have L0:Bk w0 (w.heap.size+1) 23 (c8 (z8 32)):=by rw[aA];exact (by simpa using Bk.new (w.alloc (Obj.cells #[.pointer (some ⟨g,0,none⟩),.int .i64 d] 31)) 23 (c8 (z8 32)):Bk _ _ _ _).alloc _
 have R0:Bk w0 (w.heap.size+1+1) 23 (c8 (z8 32)):=by rw[aA];simpa using Bk.new ((w.alloc (Obj.cells #[.pointer (some ⟨g,0,none⟩),.int .i64 d] 31)).alloc (Obj.cells (c8 (z8 32)).toArray 23)) 23 (c8 (z8 32))
 clear aA;refine (Df (.lf k v) _ d w0 ((aB.below B0).more B0.size)).mono ?_;rintro e w1 ⟨rfl,h1⟩;have T1:=T0.below h1 T0.lt;have L1:=L0.below h1 L0.lt;have R1:=R0.below h1 R0.lt;have B1:=C0 B0 h1 B0.size;have N1:=hb.below B1 hg;have z1:=R1.lt;dsimp only[Tr.len];clear h1 aB hb T0 L0 R0 B0;go_wp2_with fail;refine Oq (A:=?A) (fun W=>Below (w.heap.size+1) w1 W) [0,1,2,3,4,5,6,7,8,9] [10,11,12] (by kernel_rfl) (by kernel_rfl) (by kernel_rfl) (by kernel_rfl) rfl rfl (by kernel_rfl) (by kernel_rfl) ?rS (fun W hW=>?rh) (fun hS=>?rt);case rS=>exact (Below.refl _ _).drew
 case rh=>
  have T2:=T1.below hW (by omega);have N2:=N1.below hW (by omega);have c0:W.cell? ⟨w.heap.size,0,none⟩=some (.pointer (some ⟨g,0,none⟩)):=T2.at_ rfl;have aC:=Vk N2 hk;have aD:=A0o N2 hk hv;clear T2 N2;simp only[pick,List.getElem?_cons_zero,List.getElem?_cons_succ];repeat (go_big_quiet_step (fail))
  refine wpQuiet_nil ?_;rfl
 case rt=>
  simp only[pick,List.getElem?_cons_zero,List.getElem?_cons_succ];have S1:Below (w.heap.size+1) w1 w1.drew:=(Below.refl _ _).drew;have aE:E8 w1.drew ⟨w.heap.size+1,0,none⟩ 32=true:=L1.can (by simp);have aF:E8 w1.drew ⟨w.heap.size+1+1,0,none⟩ 32=true:=R1.can (by simp);refine M1 (by rfl) (fun Q' hQ'=>?_);go_wp2_with fail;have S2:=C1 S1 (a:=⟨w.heap.size+1,0,none⟩) (by simp) (c8 k);refine hQ' _ _ S2 ?_;clear hQ';refine M1 (by rfl) (fun Q' hQ'=>?_);go_wp2_with fail;have S3:=C1 S2 (a:=⟨w.heap.size+1+1,0,none⟩) (by simp) (c8 v);refine hQ' _ _ S3 ?_;clear hQ';refine M1 (by rfl) (fun Q' hQ'=>?_);go_wp2_with fail;refine hQ' _ _ S3 ?_;clear hQ';refine Jg ?_;go_wp2_with fail;have La:=(L1.drew.puts (vs:=c8 k) (by simp[hk])).putFar (p:=⟨w.heap.size+1+1,0,none⟩) (by simp) (c8 v);have Ra:=(R1.drew.putFar (p:=⟨w.heap.size+1,0,none⟩) (by simp) (c8 k)).puts (vs:=c8 v) (by simp[hv]);exact bodyPost_ret (Bv rfl (M5.row La rfl _ Tryz.underlying23 rfl (by simp[N6,hk])) (M5.row Ra rfl _ Tryz.underlying23 rfl (by simp[N6,hv])) (M5.tmp rfl)) rfl
   ⟨rfl,C1 (C1 B1.drew (by simp) _) (by simp;omega) _⟩
end
theorem A7x:WideMaps.ArrKey Tryz.prog 23 5 32:=⟨Tryz.underlying23,by kernel_rfl,by kernel_rfl,by kernel_rfl⟩
theorem Ck:Maps.Keyed Tryz.prog 23:=Maps.Keyed.of_law A7x.law
theorem A2f:∃m,Tryz.prog.types.size=m+1:=⟨Tryz.prog.types.size-1,by kernel_rfl⟩
theorem Vs {α β:Type} {f:α→Option β}:∀(l:List α),(∀x∈l,∃y,f x=some y)→∃ys,l.mapM f=some ys
 | [],_=>⟨[],rfl⟩
 | x::l,h=>by
  obtain⟨y,hy⟩:=h x (by simp);obtain⟨ys,aA⟩:=Vs l (fun z hz=>h z (by simp[hz]));exact ⟨y::ys,by simp[List.mapM_cons,hy,aA]⟩
theorem E5k (x:UInt8):(Lit.int .u8 (n8 x)).wf=true:=by
 have:=x.toNat_lt;simp[Lit.wf,n8,IntKind.min,IntKind.max,IntKind.bits,IntKind.signed];omega
theorem C4k {P:Program} {k e:TypeId} (A:WideMaps.ArrKey P k e 32) (he:P.underlying e=some (.int .u8)) (hsz:∃m,P.types.size=m+1) {l:List UInt8} (hl:l.length=32):∃kl,keyOf P k (A8 l)=some kl:=by
 have aA:=A.keyType hsz;obtain⟨m,hm⟩:=hsz;unfold keyOf;simp only[A.hu];rw[if_pos (by simp[aA,Value.formed,A.hu,A.size,A8,hl]),hm];unfold Program.keyLits;simp only[A.hu,Value.cells,A8];rw[if_pos (by rw[A.size];simp[hl])];obtain⟨ys,aB⟩:∃ys,(List.range 32).mapM (fun i=>P.keyLits (m+1) e (((c8 l).drop (i*P.cellsOf e)).take (P.cellsOf e)))=some ys:=by
  refine Vs _ fun i hi=>?_;have hi:i<32:=by simpa using hi
  obtain⟨x,hx⟩:∃x,l[i]?=some x:=⟨_,List.getElem?_eq_getElem (by omega)⟩;have e1:((c8 l).drop (i*1)).take 1=[v8 x]:=by
   rw[Nat.mul_one];obtain⟨aC,rfl⟩:=List.getElem?_eq_some_iff.1 hx;rw[List.drop_eq_getElem_cons (by simpa using aC)];simp[c8]
  rw[A.one,e1];unfold Program.keyLits;simp only[he,v8];rw[if_pos ⟨trivial,E5k x⟩];exact ⟨_,rfl⟩
 simp only[aB];exact ⟨_,rfl⟩
theorem C6i (l:List UInt8) (hl:l.length=32):∃kl,keyOf Tryz.prog 23 (A8 l)=some kl:=C4k A7x Tryz.underlying5 A2f hl
noncomputable def A0d (P:Program) (k:TypeId) (l:List UInt8):Lit:=(keyOf P k (A8 l)).getD (.bool false)
theorem A9k {P:Program} {k:TypeId} {l:List UInt8} (h:∃kl,keyOf P k (A8 l)=some kl):keyOf P k (A8 l)=some (A0d P k l):=by
 obtain⟨kl,h⟩:=h;rw[A0d,h];rfl
noncomputable def Iu (l:List UInt8):Lit:=A0d Tryz.prog 23 l
theorem Fy {l:List UInt8} (hl:l.length=32):keyOf Tryz.prog 23 (A8 l)=some (Iu l):=A9k (C6i l hl)
theorem C0n {P:Program} {k:TypeId} (K:Maps.Keyed P k) {l:List UInt8} (h:∃kl,keyOf P k (A8 l)=some kl):WideAt.IsKeyLit (A0d P k l):=by
 have h1:=A9k h;generalize A0d P k l=q at *;exact K.key h1
theorem C3w:∀l,Iu l=A0d Tryz.prog 23 l:=fun l=>rfl
attribute [irreducible] Iu A0d
theorem A0p {l:List UInt8} (hl:l.length=32):WideAt.IsKeyLit (Iu l):=by
 have h:=C0n Ck (C6i l hl);rw[←C3w]at h;exact h
theorem B7b {l m:List UInt8} (hl:l.length=32) (hm:m.length=32) (h:l≠m):Iu l≠Iu m:=fun e=>h (C7a (Ck.inj (Fy hl) (by rw[e];exact Fy hm)))
def Ji:Value→Option UInt8
 | .int .u8 n=>if 0≤n∧n<256 then some (UInt8.ofNat n.toNat) else none
 | _=>none
def B4x:Value→Option (List UInt8)
 | .agg a=>a.toList.mapM Ji
 | _=>none
theorem A6a {v:Value} {x:UInt8} (h:Ji v=some x):v=v8 x:=by
 unfold Ji at h;split at h
 ·split at h
  ·rename_i n hn
   injection h with h;subst h;simp only[v8,n8];congr 1;rw[UInt8.toNat_ofNat'];omega
  ·cases h
 ·cases h
theorem B6k {v:Value} {l:List UInt8} (h:B4x v=some l):v=A8 l:=by
 unfold B4x at h;split at h
 ·rename_i a
  simp only[A8];congr 1;obtain⟨xs⟩:=a;congr 1;simp only[]at h;revert l;induction xs with
  | nil=>intro l h;simp at h;subst h;rfl
  | cons x xs ih=>
   intro l h;simp only[List.mapM_cons]at h;cases hx:Ji x with
   | none=>simp[hx]at h
   | some b=>
    cases hr:xs.mapM Ji with
    | none=>simp[hx,hr]at h
    | some r=>
     simp[hx,hr]at h;subst h;rw[A6a hx,ih hr];rfl
 ·cases h
section
theorem Wk {W W':World} {B:Nat} {row:Option Nat} (hg:W.grownBy W' row) (hr:∀r,row=some r→∃o:Obj,W.heap[r]?=some o∧o.isCells=false):∀ {t:Tr} {p:Value},At W B t p→At W' B t p
 | .e,_,h=>h
 | .lf _ _,_,⟨g',h1,h2,h3,h4,h5⟩=>⟨g',h1,h2,h3,h4,Y9 h5 hg hr⟩
 | .nd _ _,_,⟨g',pl,pr,h1,h2,h3,h4,h5⟩=>⟨g',pl,pr,h1,h2,Y9 h3 hg hr,Wk hg hr h4,Wk hg hr h5⟩
section
variable {F : Fence} {nF : Nat} {Q : Exit → Act → World → Prop} {ops : Array Oper} {rest : List Oper} {o : Oper} {a : Act} {w : World}
end
end
end Go.Proofs.YtlegpkdighoflaaGreat
