/- A part of the proof of ClientForks. -/
import Derived.Test.YtdfpoofbgjilgaaGreatVav
set_option linter.unusedVariables false
set_option linter.unusedSimpArgs false
set_option maxRecDepth 100000
set_option maxHeartbeats 40000000
namespace Go.Proofs.YtdfpoofbgjilgaaGreat
open Go Go.RowKit Sh
section
def Q9 (n:Int) (h:List UInt8):List Value:=.int .i64 n::c8 h
def rtL (n:Int) (h:List UInt8):Nat:=(Q9 n h).length
def Cf (n:Int) (h:List UInt8):Value:=.agg (Q9 n h).toArray
theorem Y5 {n:Int} {h:List UInt8} (hh:h.length=32):rtL n h=33:=by simp[rtL,Q9,hh]
theorem Ay (n:Int) (h:List UInt8):(Q9 n h).length=rtL n h:=rfl
theorem C0i {n m:Int} {h k:List UInt8} (e:Cf n h=Cf m k):n=m∧h=k:=by
 unfold Cf Q9 at e;injection e with e;have e:=congrArg Array.toList e;simp only[List.cons.injEq]at e;obtain⟨e1,e2⟩:=e;injection e1 with _ e1;exact ⟨e1,(List.map_inj_right (fun x y h=>Ts h)).1 e2⟩
theorem D6u (n:Int) (h:List UInt8):∀x∈Q9 n h,x.oneCell'=true:=by
 intro x hx;rcases List.mem_cons.1 hx with rfl | hx
 ·rfl
 ·obtain⟨y,_,rfl⟩:=List.mem_map.1 hx;rfl
theorem A6l:(Tryz.prog.info? 37).map (·.size)=some 33:=by kernel_rfl
theorem B9t:((Tryz.prog.info? 37).bind (·.zero))=some (Cf 0 (z8 32)):=by kernel_rfl
theorem Vo:Tryz.prog.underlying 37=some (.struct (I2 Tryz.prog 37)):=by kernel_rfl
@[go_sem] theorem F6r (n : Int) (h : List UInt8) : Value.agg (Q9 n h).toArray = Cf n h := rfl
@[go_sem] theorem E6c (t : TypeId) (w : World) (raw : Result Next) (n : Int) (h : List UInt8) : Jx t w raw (Cf n h) = .ok (.value (.pointer (some ⟨w.heap.size, 0, none⟩))) (w.alloc (.cells (Q9 n h).toArray t)) := rfl
@[go_sem] theorem D9j (N : Nat) (w : World) (raw : Result Next) (a : Addr) (n : Int) (h : List UInt8) : Y6 N w raw (.pointer (some a)) (Cf n h) =
 if rtL n h=N∧E7 w a N=true then .ok .skip (C4 w a (Q9 n h)) else raw:=by
 have h1:((Q9 n h).toArray.all (·.oneCell'))=true:=by rw[Array.all_eq_true'];intro x hx;exact D6u n h x (by simpa using hx)
 unfold Cf;rw[A1i,h1];simp only[List.size_toArray,true_and,Ay]
section
variable (w : World) (ρ : Operand → Value) (dst : Option Tmp) (ty : TypeId) (pos : String) (after : Array Edge) (guard : Option (Nat × Bool))
@[go_sem ↓ high] theorem F4m:RL' 37 33:=LL' Vo A6l
@[go_sem ↓ high] theorem F0j:RS' 37 33:=SS' A6l
@[go_sem ↓ high] theorem Yu:RA' 37 (Q9 0 (z8 32)).toArray:=fun w ρ dst ty pos after guard=>I7 w ρ dst ty pos after guard 37 (Cf 0 (z8 32)) B9t
@[go_sem ↓ high] theorem E3u :
 (execOp ρ { dst,op:=.build 37 #[],type:=ty,pos,after,guard }).run Tryz.prog w=.ok (.value (Cf 0 (z8 32))) w:=by
 refine E9 w ρ dst ty pos after guard _ _ _ ?_;have h:(Instr.build 37 #[]).run Tryz.prog w=.ok (Cf 0 (z8 32)) w:=by kernel_rfl
 simp only[List.map_toArray,List.map_nil];exact h
theorem C1n (w:World):(Z3 (I2 Tryz.prog 37)).run Tryz.prog w=.ok #[(0,1),(1,32)] w:=by kernel_rfl
noncomputable def D6i (w:World) (raw:Result Next) (a b:Value):Result Next:=match a,T5 b with
 | .int .i64 v,some k=>if k.length=32 then .ok (.value (Cf v k)) w else raw
 | _,_=>raw
@[go_sem] theorem F2z (w : World) (raw : Result Next) (v : Int) (k : List UInt8) (hk : k.length = 32) : D6i w raw (.int .i64 v) (A8 k) = .ok (.value (Cf v k)) w := by
 unfold D6i;simp only[U5];simp[hk]
theorem E0f (v:Int) (k:List UInt8) (hk:k.length=32) (w:World):(Instr.build 37 #[(0,.int .i64 v),(1,A8 k)]).run Tryz.prog w=.ok (Cf v k) w:=by
 have aA:(Cf 0 (z8 32)).cells.toList=.int .i64 0::c8 (z8 32):=rfl;have h1:=I3 Vo B9t w (C1n w) #[(0,.int .i64 v),(1,A8 k)] [(0,[.int .i64 v]),(1,c8 k)] (by
  rw[aA];exact ⟨rfl,rfl,by simp,by simp[hk],rfl,by simp[hk],trivial⟩)
 refine h1.trans (congrArg (fun (cs:List Value)=>Result.ok (Value.agg cs.toArray) w) ?_);rw[aA];simp[Bg,N9,hk,List.take_append,List.drop_append,List.drop_eq_nil_of_le,List.take_of_length_le,Q9,c8]
@[go_sem ↓ high] theorem E8r (x y : Operand) :
 (execOp ρ { dst,op:=.build 37 #[(0,x),(1,y)],type:=ty,pos,after,guard }).run Tryz.prog w=D6i w (F2 Tryz.prog ρ { dst,op:=.build 37 #[(0,x),(1,y)],type:=ty,pos,after,guard } w) (ρ x) (ρ y):=by
 generalize h0:ρ x=a;generalize h1:ρ y=b;unfold D6i;split
 ·rename_i v k g0
  replace g0:=J4 g0;split
  ·rename_i h
   refine E9 w ρ dst ty pos after guard _ _ _ ?_;simp only[List.map_toArray,List.map_cons,List.map_nil,h0,h1,g0];exact E0f v k h w
  ·rfl
 ·rfl
end
noncomputable def D0h:Field:=(I2 Tryz.prog 37).getD 0 default
noncomputable def C8d:Field:=(I2 Tryz.prog 37).getD 1 default
theorem F6i:(Tryz.prog.fieldsOf 37).toList=[D0h,C8d]:=by kernel_rfl
theorem F5p:Tryz.prog.underlying 37=some (.struct (Tryz.prog.fieldsOf 37)):=by kernel_rfl
theorem F6n : (D0h.name, D0h.type, D0h.offset) = ("Epoch", 3, 0) := by kernel_rfl
theorem F8a : (C8d.name, C8d.type, C8d.offset) = ("Hash", 35, 1) := by kernel_rfl
theorem C8s:Tryz.prog.stoodInHeld 37=false:=by kernel_rfl
theorem B3u:Tryz.prog.eqGuardType Tryz.prog.depth 37=false:=by kernel_rfl
theorem B1d (w:World) (n:Int) (h:List UInt8):(part 3 (Q9 n h).toArray 0).run Tryz.prog w=.ok (.int .i64 n) w:=by
 unfold part isAgg;simp only[Sem.run_bind,run_underlying Tryz.underlying3,Result.andThen_ok,Sem.run_pure];rfl
theorem A9z (w:World) (n:Int) (h:List UInt8) (hh:h.length=32):(part 35 (Q9 n h).toArray 1).run Tryz.prog w=.ok (A8 h) w:=by
 have hi:(Tryz.prog.info? 35).map (·.size)=some 32:=I8;cases hq:Tryz.prog.info? 35 with
 | none=>simp[hq]at hi
 | some j=>
  have hj:j.size=32:=by simpa [hq] using hi
  have e:(Q9 n h).toArray.extract 1 (1+32)=(c8 h).toArray:=by apply Array.ext';simp[Q9,c8,List.extract_eq_take_drop,List.take_of_length_le,hh]
  unfold part isAgg;simp only[Sem.run_bind,run_underlying Tryz.underlying35,Result.andThen_ok,Sem.run_pure,if_true,sizeOf,typeInfo];simp[hq,hj,e,A8];simp[Q9,c8,List.take_of_length_le,hh]
theorem D0q (w:World) (d:Nat) (n m:Int):(Op.equalIn (d+1) 3 (.int .i64 n) (.int .i64 m)).run Tryz.prog w=.ok (n==m) w:=by
 unfold Op.equalIn;simp only[Sem.run_bind,run_underlying Tryz.underlying3,Result.andThen_ok];simp
theorem Ms (w:World) (d:Nat) (n m:Int) (h k:List UInt8) (hh:h.length=32) (hk:k.length=32):(Op.equalIn (d+3) 37 (Cf n h) (Cf m k)).run Tryz.prog w=.ok ((n==m)&&(h==k)) w:=by
 have e0:=F6n;have e1:=F8a;simp only[Prod.mk.injEq]at e0 e1;obtain⟨n0,t0,o0⟩:=e0;obtain⟨n1,t1,o1⟩:=e1;refine (run_equalIn_struct (P:=Tryz.prog) w (d+2) 37 (Q9 n h).toArray (Q9 m k).toArray F5p C8s).trans ?_;rw[F6i];refine Tj w (d+2) _ _ D0h C8d (.int .i64 n) (.int .i64 m) (A8 h) (A8 k) _ _ (by rw[n0];decide) (by rw[n1];decide) ?_ ?_ ?_ ?_ ?_ ?_
 ·rw[t0,o0];exact B1d w n h
 ·rw[t0,o0];exact B1d w m k
 ·rw[t0];exact D0q w (d+1) n m
 ·rw[t1,o1];exact A9z w n h hh
 ·rw[t1,o1];exact A9z w m k hk
 ·rw[t1];exact Fq w d _ _ hh hk
open Classical in
noncomputable def A4d (neg:Bool) (w:World) (raw:Result Next) (a b:Value):Result Next:=
 if h:∃p:(Int×List UInt8)×(Int×List UInt8),p.1.2.length=32∧p.2.2.length=32∧a=Cf p.1.1 p.1.2∧b=Cf p.2.1 p.2.2 then .ok (.value (.bool (neg != ((h.choose.1.1==h.choose.2.1)&&(h.choose.1.2==h.choose.2.2))))) w else raw
@[go_sem] theorem E6e (neg : Bool) (w : World) (raw : Result Next) (n m : Int) (h k : List UInt8) (hh : h.length = 32) (hk : k.length = 32) : A4d neg w raw (Cf n h) (Cf m k) = .ok (.value (.bool (neg != ((n == m) && (h == k))))) w := by
 have hx:∃p:(Int×List UInt8)×(Int×List UInt8),p.1.2.length=32∧p.2.2.length=32∧Cf n h=Cf p.1.1 p.1.2∧Cf m k=Cf p.2.1 p.2.2:=⟨((n,h),(m,k)),hh,hk,rfl,rfl⟩;unfold A4d;rw[dif_pos hx];obtain⟨_,_,h1,h2⟩:=hx.choose_spec;obtain⟨a1,a2⟩:=C0i h1;obtain⟨b1,b2⟩:=C0i h2;rw[←a1,←a2,←b1,←b2]
section
variable (w : World) (ρ : Operand → Value) (dst : Option Tmp) (ty : TypeId) (pos : String) (after : Array Edge) (guard : Option (Nat × Bool)) (x y : Operand) (yt : TypeId)
@[go_sem ↓ high] theorem F6s :
 (execOp ρ { dst,op:=.binOp .neq 37 x y yt,type:=ty,pos,after,guard }).run Tryz.prog w=A4d true w (F2 Tryz.prog ρ { dst,op:=.binOp .neq 37 x y yt,type:=ty,pos,after,guard } w) (ρ x) (ρ y):=by
 generalize hv:ρ x=a;generalize hz:ρ y=b;unfold A4d;split
 ·rename_i h
  obtain⟨l1,l2,h1,h2⟩:=h.choose_spec;generalize h.choose=p at *;have aA:(eqGuard .neq 37 x y a b).run Tryz.prog w=.ok () w:=by rw[h1,h2];exact run_eqGuard_agg (P:=Tryz.prog) w .neq 37 x y _ _ B3u
  have e1:(binOp .neq 37 a b).run Tryz.prog w=.ok (.bool (!((p.1.1==p.2.1)&&(p.1.2==p.2.2)))) w:=by rw[h1,h2,Cf,Cf,run_neq_struct];exact congrArg (fun r:Result Bool=>r.andThen fun b w'=>Result.ok (Value.bool (!b)) w') (Ms w 9997 _ _ _ _ l1 l2)
  simp only[execOp,hv,hz,Sem.run_bind,aA,Result.andThen_ok,e1,Sem.run_pure];simp
 ·rfl
@[go_sem ↓ high] theorem F6k :
 (execOp ρ { dst,op:=.binOp .eql 37 x y yt,type:=ty,pos,after,guard }).run Tryz.prog w=A4d false w (F2 Tryz.prog ρ { dst,op:=.binOp .eql 37 x y yt,type:=ty,pos,after,guard } w) (ρ x) (ρ y):=by
 generalize hv:ρ x=a;generalize hz:ρ y=b;unfold A4d;split
 ·rename_i h
  obtain⟨l1,l2,h1,h2⟩:=h.choose_spec;generalize h.choose=p at *;have aA:(eqGuard .eql 37 x y a b).run Tryz.prog w=.ok () w:=by rw[h1,h2];exact run_eqGuard_agg (P:=Tryz.prog) w .eql 37 x y _ _ B3u
  have e1:(binOp .eql 37 a b).run Tryz.prog w=.ok (.bool ((p.1.1==p.2.1)&&(p.1.2==p.2.2))) w:=by rw[h1,h2,Cf,Cf,run_eql_struct];exact congrArg (fun r:Result Bool=>r.andThen fun b w'=>Result.ok (Value.bool b) w') (Ms w 9997 _ _ _ _ l1 l2)
  simp only[execOp,hv,hz,Sem.run_bind,aA,Result.andThen_ok,e1,Sem.run_pure];simp
 ·rfl
end
section
variable {w : World} {g : Nat} {t : TypeId} {n m : Int} {h k : List UInt8}
theorem Bk.rowrt (K:Bk w g t (Q9 n h)) (hh:h.length=32):D9 w ⟨g,0,none⟩ 33=some (Q9 n h):=by have:=K.rows;rwa [Ay,Y5 hh]at this
theorem Bk.canrt (K:Bk w g t (Q9 n h)) (hh:h.length=32):E7 w ⟨g,0,none⟩ 33=true:=K.can (by rw[Ay,Y5 hh];omega)
theorem Bk.putrt (K:Bk w g t (Q9 n h)) (hh:h.length=32) (hk:k.length=32):Bk (C4 w ⟨g,0,none⟩ (Q9 m k)) g t (Q9 m k):=K.puts (by rw[Ay,Ay,Y5 hh,Y5 hk])
theorem Fg (K:Bk w g t (Q9 n h)):w.cell? ⟨g,0,none⟩=some (.int .i64 n):=K.at_ rfl
theorem D6d (K:Bk w g t (Q9 n h)) (hh:h.length=32):D9 w ⟨g,1,none⟩ 32=some (c8 h):=by
 rw[K.rowMid 1 32 (by rw[Ay,Y5 hh];decide)];simp[Q9,hh,List.take_of_length_le]
theorem Ep {p:Tmp} {tmps:Array Value} (K:Bk w g t (Q9 n h)) (hh:h.length=32) (hp:tmps.getD p undef=.pointer (some ⟨g,0,none⟩)):H9 Tryz.prog tmps w (.cell p 37) (Cf n h):=
 H9.row K hp _ Vo rfl (by rw[Ay,Y5 hh];exact A6l)
end
end
end Go.Proofs.YtdfpoofbgjilgaaGreat
