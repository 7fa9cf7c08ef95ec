/- A part of the proof of ClientForks. -/
import Derived.Stop.BytesEq
import Derived.Lib.SlBytesConst
import Derived.OrdersHeld
import Derived.Deep.RegionHeld3
import Derived.Deep.Quiet
import Derived.BigQuiet
import Derived.StillTail
import Derived.WalkKit
import Derived.Laws.Small
import Derived.Laws.BytesString
import Derived.KernelRfl
import Derived.Test.YtdfpoofbgjilgaaGreatVad
set_option linter.unusedVariables false
set_option linter.unusedSimpArgs false
set_option maxRecDepth 100000
set_option maxHeartbeats 40000000
namespace Go.Proofs.YtdfpoofbgjilgaaGreat
open Go Go.RowKit Sh
section
theorem Lu (g:Nat):∀(vs:List Value) (o:Nat) (w:World) (x:Addr),((w.setCells g o vs).cell? x).isSome=(w.cell? x).isSome
 | [],_,_,_=>rfl
 | v::r,o,w,x=>by
  rw[World.setCells,Lu g r (o+1) _ x];by_cases h:x.block=g
  ·unfold World.cell? World.setCell;simp only[Array.getElem?_modify,h,if_true];cases w.heap[g]? with
   | none=>rfl
   | some ob=>
    cases ob with
    | cells c e f=>
     simp only[Option.map_some,Option.isSome_none,Bool.false_eq_true,if_false];split
     ·rfl
     ·rw[Array.getElem?_setIfInBounds];split
      ·rename_i hx
       subst hx;split
       ·rename_i hl;simp[Array.getElem?_eq_getElem hl]
       ·rename_i hl;simp[Array.getElem?_eq_none (Nat.le_of_not_lt hl)]
      ·rfl
    | _=>rfl
  ·rw[World.cell?_of_block (Below.heap_setCell w ⟨g,o,none⟩ v x.block (by simpa using h))]
@[go_sem] theorem D8u (w : World) (p a : Addr) (vs : List Value) (n : Nat) : E7 (C4 w p vs) a n = E7 w a n := by
 unfold E7 C4;congr 1;funext j;rw[Lu,World.frozen?_setCells]
@[go_sem] theorem D8q (w : World) (p a : Addr) (vs : List Value) (n : Nat) (h : a.block ≠ p.block) : D9 (C4 w p vs) a n = D9 w a n :=
 Le fun q hq=>World.cell?_of_block (T7 _ _ _ _ _ (by omega))
@[go_sem] theorem D2r (w : World) (p a : Addr) (v : Value) (n : Nat) (h : a.block ≠ p.block) : D9 (w.setCell p v) a n = D9 w a n :=
 C4o v h
@[go_sem] theorem D8g (w : World) (p a : Addr) (vs : List Value) (h : a.block ≠ p.block) : (C4 w p vs).cell? a = w.cell? a :=
 World.cell?_of_block (T7 _ _ _ _ _ h)
@[go_sem] theorem D2l (w : World) (p a : Addr) (vs : List Value) : (C4 w p vs).frozen? a = w.frozen? a := World.frozen?_setCells _ _ _ _ _
@[go_sem] theorem D9p (w : World) (A : Obj) (cs : List Value) (t n : Nat) (h : cs.length = n) : D9 ((w.alloc A).alloc (.cells cs.toArray t)) ⟨w.heap.size + 1, 0, none⟩ n = some cs := by
 have:=C4h (w.alloc A) cs t n h;simpa using this
@[go_sem] theorem E1o (w : World) (A : Obj) (cs : List Value) (t n : Nat) (h : cs.length = n) : E7 ((w.alloc A).alloc (.cells cs.toArray t)) ⟨w.heap.size + 1, 0, none⟩ n = true := by
 have:=C3i (w.alloc A) cs t n h;simpa using this
open Classical in
noncomputable def T5 (v:Value):Option (List UInt8):=if h:∃l,v=A8 l then some h.choose else none
theorem Ts {x y:UInt8} (h:v8 x=v8 y):x=y:=by
 unfold v8 at h;injection h with _ h;exact C6c h
theorem C6f {xs ys:List UInt8} (h:A8 xs=A8 ys):xs=ys:=by
 unfold A8 c8 at h;injection h with h;have h2:xs.map v8=ys.map v8:=by injection h
 exact (List.map_inj_right fun _ _=>Ts).1 h2
theorem U5 (l:List UInt8):T5 (A8 l)=some l:=by
 have h:∃m,A8 l=A8 m:=⟨l,rfl⟩;unfold T5;rw[dif_pos h];exact congrArg some (C6f h.choose_spec).symm
theorem J4 {v:Value} {l:List UInt8} (h:T5 v=some l):v=A8 l:=by
 unfold T5 at h;split at h
 ·rename_i hh
  injection h with h;rw[←h];exact hh.choose_spec
 ·cases h
noncomputable def Py (neg:Bool) (n:Nat) (w:World) (raw:Result Next) (a b:Value):Result Next:=
 match T5 a,T5 b with
 | some xs,some ys=>if xs.length=n∧ys.length=n then .ok (.value (.bool (neg != (xs==ys)))) w else raw
 | _,_=>raw
@[go_sem] theorem E9p (neg : Bool) (n : Nat) (w : World) (raw : Result Next) (xs ys : List UInt8) (hx : xs.length = n) (hy : ys.length = n) : Py neg n w raw (A8 xs) (A8 ys) = .ok (.value (.bool (neg != (xs == ys)))) w := by
 unfold Py;rw[U5,U5];exact if_pos ⟨hx,hy⟩
section
variable {P : Program} (w : World) (ρ : Operand → Value) (dst : Option Tmp) (ty : TypeId) (pos : String) (after : Array Edge) (guard : Option (Nat × Bool))
theorem B0v (t e n:TypeId) (x y:Operand) (yt:TypeId) (hu:P.underlying t=some (.array n e)) (he:P.underlying e=some (.int .u8)) (hi:(P.info? e).map (·.size)=some 1) (hg:P.eqGuardType P.depth t=false) :
 (execOp ρ { dst,op:=.binOp .eql t x y yt,type:=ty,pos,after,guard }).run P w=Py false n w (F2 P ρ { dst,op:=.binOp .eql t x y yt,type:=ty,pos,after,guard } w) (ρ x) (ρ y):=by
 generalize hv:ρ x=a;generalize hz:ρ y=b;unfold Py;split
 ·rename_i xs ys h1 h2
  replace h1:=J4 h1;replace h2:=J4 h2;split
  ·rename_i h
   obtain⟨h3,h4⟩:=h;have aA:∀w,(sizeOf e).run P w=.ok 1 w:=fun w=>by
    cases hq:P.info? e with
    | none=>simp[hq]at hi
    | some j=>simp[hq]at hi;simp[sizeOf,typeInfo,hq,hi]
   have aB:(eqGuard .eql t x y a b).run P w=.ok () w:=by rw[h1,h2];exact run_eqGuard_agg (P:=P) w .eql t x y _ _ hg
   have e1:(binOp .eql t a b).run P w=.ok (.bool (xs==ys)) w:=by rw[h1,h2];exact run_eql_bytes (P:=P) w t e n hu he aA _ _ h3 h4
   simp only[execOp,hv,hz,Sem.run_bind,aB,Result.andThen_ok,e1,Sem.run_pure];simp
  ·rfl
 ·rfl
theorem A9c (t e n:TypeId) (x y:Operand) (yt:TypeId) (hu:P.underlying t=some (.array n e)) (he:P.underlying e=some (.int .u8)) (hi:(P.info? e).map (·.size)=some 1) (hg:P.eqGuardType P.depth t=false) :
 (execOp ρ { dst,op:=.binOp .neq t x y yt,type:=ty,pos,after,guard }).run P w=Py true n w (F2 P ρ { dst,op:=.binOp .neq t x y yt,type:=ty,pos,after,guard } w) (ρ x) (ρ y):=by
 generalize hv:ρ x=a;generalize hz:ρ y=b;unfold Py;split
 ·rename_i xs ys h1 h2
  replace h1:=J4 h1;replace h2:=J4 h2;split
  ·rename_i h
   obtain⟨h3,h4⟩:=h;have aA:∀w,(sizeOf e).run P w=.ok 1 w:=fun w=>by
    cases hq:P.info? e with
    | none=>simp[hq]at hi
    | some j=>simp[hq]at hi;simp[sizeOf,typeInfo,hq,hi]
   have aB:(eqGuard .neq t x y a b).run P w=.ok () w:=by rw[h1,h2];exact run_eqGuard_agg (P:=P) w .neq t x y _ _ hg
   have e1:(binOp .neq t a b).run P w=.ok (.bool (!(xs==ys))) w:=by rw[h1,h2,A8,A8,run_neq_struct];exact congrArg (fun r:Result Bool=>r.andThen fun b w'=>Result.ok (Value.bool (!b)) w') (run_equalIn_bytes (P:=P) w 9998 t e n hu he aA _ _ h3 h4)
   simp only[execOp,hv,hz,Sem.run_bind,aB,Result.andThen_ok,e1,Sem.run_pure];simp
  ·rfl
 ·rfl
end
@[go_sem ↓ high] theorem F5b (w : World) (ρ : Operand → Value) (dst : Option Tmp) (ty : TypeId) (pos : String) (after : Array Edge) (guard : Option (Nat × Bool)) (x y : Operand) (yt : TypeId) :
 (execOp ρ { dst,op:=.binOp .eql 35 x y yt,type:=ty,pos,after,guard }).run Tryz.prog w=Py false 32 w (F2 Tryz.prog ρ { dst,op:=.binOp .eql 35 x y yt,type:=ty,pos,after,guard } w) (ρ x) (ρ y):=
 B0v w ρ dst ty pos after guard 35 5 32 x y yt Tryz.underlying35 Tryz.underlying5 (by kernel_rfl) (by kernel_rfl)
@[go_sem ↓ high] theorem F4y (w : World) (ρ : Operand → Value) (dst : Option Tmp) (ty : TypeId) (pos : String) (after : Array Edge) (guard : Option (Nat × Bool)) (x y : Operand) (yt : TypeId) :
 (execOp ρ { dst,op:=.binOp .neq 35 x y yt,type:=ty,pos,after,guard }).run Tryz.prog w=Py true 32 w (F2 Tryz.prog ρ { dst,op:=.binOp .neq 35 x y yt,type:=ty,pos,after,guard } w) (ρ x) (ρ y):=
 A9c w ρ dst ty pos after guard 35 5 32 x y yt Tryz.underlying35 Tryz.underlying5 (by kernel_rfl) (by kernel_rfl)
@[go_sem ↓ high] theorem F4o (w : World) (ρ : Operand → Value) (dst : Option Tmp) (ty : TypeId) (pos : String) (after : Array Edge) (guard : Option (Nat × Bool)) (x y : Operand) (yt : TypeId) :
 (execOp ρ { dst,op:=.binOp .eql 46 x y yt,type:=ty,pos,after,guard }).run Tryz.prog w=Py false 64 w (F2 Tryz.prog ρ { dst,op:=.binOp .eql 46 x y yt,type:=ty,pos,after,guard } w) (ρ x) (ρ y):=
 B0v w ρ dst ty pos after guard 46 5 64 x y yt Tryz.underlying46 Tryz.underlying5 (by kernel_rfl) (by kernel_rfl)
@[go_sem ↓ high] theorem F4k (w : World) (ρ : Operand → Value) (dst : Option Tmp) (ty : TypeId) (pos : String) (after : Array Edge) (guard : Option (Nat × Bool)) (x y : Operand) (yt : TypeId) :
 (execOp ρ { dst,op:=.binOp .neq 46 x y yt,type:=ty,pos,after,guard }).run Tryz.prog w=Py true 64 w (F2 Tryz.prog ρ { dst,op:=.binOp .neq 46 x y yt,type:=ty,pos,after,guard } w) (ρ x) (ρ y):=
 A9c w ρ dst ty pos after guard 46 5 64 x y yt Tryz.underlying46 Tryz.underlying5 (by kernel_rfl) (by kernel_rfl)
end
theorem By.build (w:World) (t:TypeId) (fr:Nat×Nat) (l:List UInt8) (hl:l.length≤9223372036854775807):By (w.alloc (.cells (l.map v8).toArray t fr)) 0 (w.heap.size+1) (.slice (some ⟨w.heap.size,0,none⟩) l.length l.length) l:=
 By.mk_ (Nat.le_refl _) (by simpa [maxLen] using hl) (.inr ⟨_,_,rfl,Nat.zero_le _,by omega,fun j u hj=>by
  rw[Nat.zero_add,cell_of_row _ w.heap.size j (l.map v8).toArray t fr (heap_alloc_new w _)];simpa using hj⟩)
theorem J9.build (w:World) (t:TypeId) (vs:List Value) (ls:List (List UInt8)) (hl:vs.length=ls.length) (hm:ls.length≤9223372036854775807)
 (h:∀(i:Nat) (x:Value) (l:List UInt8),vs[i]?=some x→ls[i]?=some l→By w 0 w.heap.size x l) :
 J9 (w.alloc (.cells vs.toArray t)) (w.heap.size+1) (.slice (some ⟨w.heap.size,0,none⟩) vs.length vs.length) ls:=
 ⟨vs,⟨_,_,rfl,Nat.le_refl _,by simp[maxLen];omega,.inr ⟨_,_,rfl,Nat.zero_le _,by omega,fun j u hj=>by rw[Nat.zero_add];exact (Bk.new w t vs).at_ hj⟩⟩,hl,
  fun i x l hx hl=>((h i x l hx hl).below ((Below.refl _ _).alloc (Nat.le_refl _) _)).more (by omega)⟩
section
variable {P : Program} {ops : Array Oper} {md : Region.Mode} {S : World → Prop}
def Bp (P:Program) (ops:Array Oper) (S:World→Prop) (o:Oper) (v:Value) (a:Act):Prop:=
 (Region.wanted o (yielded ops a.tmps)=true∧∀w,S w→o.quietAt P a (fun w'=>w'=w) w v)∨
 (Region.wanted o (yielded ops a.tmps)=false∧v=undef)
theorem Bp.op {i:Nat} {o:Oper} {v:Value} {a:Act} {K:Act→World→Prop} {Q:Exit→Act→World→Prop} {w:World} (hy:Bp P ops S o v a) (hi:ops[i]?=some o) (hS:S w) (h:K (a.put o.dst v) w):wpOp P ops Q i K a w:=by
 unfold wpOp;simp only[hi];rcases hy with ⟨hw,hv⟩ | ⟨hw,rfl⟩
 ·rw[if_pos hw];exact .inl (Oper.wp_of_quiet (C:=fun w'=>w'=w) (K:=fun a'=>K a' w) rfl (fun a' w' hw' hK=>by rw[hw'];exact hK) ⟨v,fun w' hw'=>by rw[hw'];exact hv w hS,h⟩)
 ·rw[if_neg (by rw[hw];simp)];exact h
theorem Bp.alike {o:Oper} {v:Value} {a a':Act} (hy:Bp P ops S o v a) (he:execOp a'.eval o=execOp a.eval o) (hw:Region.wanted o (yielded ops a'.tmps)=Region.wanted o (yielded ops a.tmps)):Bp P ops S o v a':=by
 unfold Bp Oper.quietAt at *;rw[he,hw];exact hy
theorem Wu {j:Nat} {oi oj:Oper} {v:Value} {Q:Exit→Act→World→Prop} (hj:ops[j]?=some oj) (hap:oi.apart ops oj=true) (hsi:∀cs b,oi.op≠.select cs b) (hsj:∀cs b,oj.op≠.select cs b)
 (hQ:∀c a a' w,Q (.panic c) a w→Q (.panic c) a' w) {K:Act→World→Prop} {a:Act} {w:World} (hy:Bp P ops S oi v a) (h:wpOp P ops Q j K (a.put oi.dst v) w) :
 wpOp P ops Q j (fun a' w'=>Bp P ops S oi v a'∧K (a'.put oi.dst v) w') a w:=by
 obtain⟨h1,h2,h3⟩:=Oper.apart_spec hap;have aA:∀(b:Act) (u:Value),Bp P ops S oi v b→Bp P ops S oi v (b.put oj.dst u):=fun b u hb=>
  hb.alike (execOp_put oi hsi b oj.dst u h3) (wanted_put oi b oj.dst u h3)
 have aB:∀(b:Act) (u:Value) (w:World),K ((b.put oi.dst v).put oj.dst u) w→K ((b.put oj.dst u).put oi.dst v) w:=fun b u w hk=>by
  rw[←Act.put_comm b v u h2];exact hk
 unfold wpOp at *;simp only[hj]at *;rw[wanted_put oj a oi.dst v h1]at h;by_cases hw:Region.wanted oj (yielded ops a.tmps)=true
 ·rw[if_pos hw]at h ⊢;refine h.imp (fun h=>?_) (fun h=>⟨?_,h.2⟩)
  ·unfold Oper.wp at *;rw[execOp_put oj hsj a oi.dst v h1]at h;generalize (execOp a.eval oj).run P w=r at *;cases r with
   | ok n w'=>
    cases n<;>simp only[Oper.upon]at h ⊢;case value u=>exact ⟨aA a u hy,aB _ _ _ h⟩
    case skip=>exact ⟨aA a _ hy,aB _ _ _ h⟩
    case defer d=>exact ⟨aA _ _ (Bp.alike (a:=a) hy rfl rfl),aB _ _ _ (by rw[←Act.put_defers];exact h)⟩
    case enter f args=>
     refine Calls.mono h fun e w'' he=>?_;cases e with
     | returned u=>exact ⟨aA a u hy,aB _ _ _ he⟩
     | panicked c=>exact hQ _ _ _ _ he
     | outgrown=>exact he
    case row row args=>exact Rows.mono h fun u w'' he=>⟨aA a u hy,aB _ _ _ he⟩
   | halt x w'=>
    cases x<;>simp only[Oper.upon]at h ⊢;case panic u=>exact hQ _ _ _ _ h
  ·unfold Oper.asks at *;rw[execOp_put oj hsj a oi.dst v h1]at h;exact h.1
 ·rw[if_neg hw]at h ⊢;exact ⟨aA a _ hy,aB _ _ _ h⟩
theorem A1q {i:Nat} {oi:Oper} {v:Value} {Q:Exit→Act→World→Prop} (hi:ops[i]?=some oi) (hsel:∀(j:Nat) (o:Oper) cs b,ops[j]?=some o→o.op≠.select cs b) (hQ:∀c a a' w,Q (.panic c) a w→Q (.panic c) a' w) :
 ∀(fuel:Nat) (listed:Array Bool) (a:Act) (w:World),
  (∀j oj,ops[j]?=some oj→j≠i→listed.getD j true=false→(∀e∈oj.after,Region.binds md e=true→e.on≠i)→oi.apart ops oj=true)→
  i∈Region.ready md ops listed→Bp P ops S oi v a→S w→
  wpAnyH P md ops Q S fuel (listed.setIfInBounds i true) (a.put oi.dst v) w→wpAnyH P md ops Q S (fuel+1) listed a w
 | fuel,listed,a,w,hfree,hr,hy,hS,H=>by
  refine ⟨fun h=>(by rw[h]at hr;cases hr),fun j hj=>?_⟩;by_cases hji:j=i
  ·subst hji;exact hy.op hi hS ⟨hS,H⟩
  ·cases fuel with
   | zero=>have:=ready_mono hj hji;rw[H.1]at this;cases this
   | succ fuel=>
    obtain⟨aA,oj,aB,aC⟩:=mem_ready.1 hj;have aE:=(mem_ready.1 hr).1;have aD:∀e∈oj.after,Region.binds md e=true→e.on≠i:=fun e he hb heq=>by
     have h1:=aC e he hb;rw[heq,getD_both aE]at h1;cases h1
    refine wpOp_mono (fun a' w' h3=>⟨h3.2.1,A1q hi hsel hQ fuel (listed.setIfInBounds j true) a' w' (fun k ok hk hki hkun hno=>?_) (ready_mono hr (Ne.symm hji)) h3.1 h3.2.1 ?_⟩) (Wu aB (hfree j oj aB hji aA aD) (fun cs b=>hsel i oi cs b hi) (fun cs b=>hsel j oj cs b aB) hQ hy (H.2 j (ready_mono hj hji)))
    ·refine hfree k ok hk hki ?_ hno;by_cases hjk:j=k
     ·subst hjk;exact aA
     ·rw[getD_set_ne true hjk]at hkun;exact hkun
    ·rw[Array.setIfInBounds_comm _ _ hji];exact h3.2.2
def Wc (P:Program) (ops:Array Oper) (S:World→Prop) (L:Act→Prop):List Oper→Act→Prop
 | [],a=>L a
 | o::rest,a=>∃v,Bp P ops S o v a∧Wc P ops S L rest (a.put o.dst v)
def Cp (n:Nat):List Oper→Bool
 | []=>true
 | o::rest=>(match o.dst with | some d=>decide (d<n)&&rest.all (fun p=>p.dst != some d) | none=>false)&&Cp n rest
theorem Tw (a:Act) (d:Option Tmp) (v:Value):(a.put d v).tmps.size=a.tmps.size:=by cases d<;>simp[Act.put]
theorem Ol {C:World→Prop} {d:Tmp} {A:Act}:∀(l:List Oper) (a:Act),l.all (fun p=>p.dst != some d)=true→wpQuiet P ops C (fun a'=>a'=A) l a→A.tmps.getD d undef=a.tmps.getD d undef
 | [],a,_,h=>by rw[show a=A from h]
 | o::l,a,hl,h=>by
  simp only[List.all_cons,Bool.and_eq_true]at hl;have hput:∀v,(a.put o.dst v).tmps.getD d undef=a.tmps.getD d undef:=fun v=>by
   cases ho:o.dst with
   | none=>rfl
   | some e=>
    have aA:e≠d:=by intro h;subst h;simp[ho]at hl
    simp[Act.put,aA]
  unfold wpQuiet at h;split at h
  ·obtain⟨v,_,h⟩:=h;rw[Ol l _ hl.2 h,hput]
  ·rw[Ol l _ hl.2 h,hput]
theorem Cx {A:Act} (W0:World) (h0:S W0):∀(l:List Oper) (a:Act),Cp a.tmps.size l=true→(∀W,S W→wpQuiet P ops (fun w'=>w'=W) (fun a'=>a'=A) l a)→Wc P ops S (fun a'=>a'=A) l a
 | [],a,_,h=>h W0 h0
 | o::l,a,hl,h=>by
  simp only[Cp,Bool.and_eq_true]at hl;obtain⟨ho,hl⟩:=hl;cases hd:o.dst with
  | none=>rw[hd]at ho;cases ho
  | some d=>
   rw[hd]at ho;simp only[Bool.and_eq_true,decide_eq_true_eq]at ho;by_cases hw:Region.wanted o (yielded ops a.tmps)=true
   ·have aA:∀W,S W→o.quietAt P a (fun w'=>w'=W) W (A.tmps.getD d undef)∧wpQuiet P ops (fun w'=>w'=W) (fun a'=>a'=A) l (a.put o.dst (A.tmps.getD d undef)):=fun W hW=>by
     have h1:=h W hW;unfold wpQuiet at h1;rw[if_pos hw]at h1;obtain⟨v,hv,h2⟩:=h1;have e:=Ol l _ ho.2 h2;rw[hd]at e;have e2:(a.put (some d) v).tmps.getD d undef=v:=by simp[Act.put,ho.1]
     rw[e2]at e;rw[e];exact ⟨hv W rfl,h2⟩
    exact ⟨_,.inl ⟨hw,fun W hW=>(aA W hW).1⟩,Cx W0 h0 l _ (by rw[Tw];exact hl) fun W hW=>(aA W hW).2⟩
   ·refine ⟨undef,.inr ⟨by simpa using hw,rfl⟩,Cx W0 h0 l _ (by rw[Tw];exact hl) fun W hW=>?_⟩;have h1:=h W hW;unfold wpQuiet at h1;rw[if_neg hw]at h1;exact h1
theorem Ir {L L':Act→Prop} (hL:∀a,L a→L' a):∀(l:List Oper) (a:Act),Wc P ops S L l a→Wc P ops S L' l a
 | [],a,h=>hL a h
 | _::l,_,⟨v,hy,h⟩=>⟨v,hy,Ir hL l _ h⟩
def Rs (P:Program) (S:World→Prop) (Q:Act→World→Prop):List Oper→Act→World→Prop
 | [],a,w=>Q a w
 | o::rest,a,w=>Oper.wp P o a w (fun a' w'=>S w'∧Rs P S Q rest a' w') (fun _ _ _=>False)
theorem Gy {Q:Act→World→Prop} {a:Act} {w:World} (h:Q a w):Rs P S Q [] a w:=h
theorem Mk {o:Oper} {a:Act} {w:World} {K K':Act→World→Prop} {Q Q':Exit→Act→World→Prop} (hK:∀a w,K a w→K' a w) (hQ:∀e a w,e≠.normal→Q e a w→Q' e a w) (h:o.wp P a w K Q):o.wp P a w K' Q':=by
 unfold Oper.wp at *;generalize (execOp a.eval o).run P w=r at *;cases r with
 | ok n w'=>
  cases n<;>simp only[Oper.upon]at h ⊢;case value=>exact hK _ _ h
  case skip=>exact hK _ _ h
  case defer=>exact hK _ _ h
  case enter f args=>
   refine Calls.mono h fun e w'' he=>?_;cases e with
   | returned v=>exact hK _ _ he
   | panicked c=>exact hQ _ _ _ (by intro h;cases h) he
   | outgrown=>obtain⟨a,w,h⟩:=he;exact ⟨a,w,hQ _ _ _ (by intro h;cases h) h⟩
  case row=>exact Rows.mono h fun _ _ he=>hK _ _ he
 | halt x w'=>
  cases x<;>simp only[Oper.upon]at h ⊢;case panic=>exact hQ _ _ _ (by intro h;cases h) h
theorem H8 {Q:Act→World→Prop} {o:Oper} {rest:List Oper} {a:Act} {w:World} (hg:o.guard=none)
 (h:∀Q':Exit→Act→World→Prop,(∀a' w',S w'→Rs P S Q rest a' w'→Q' .normal a' w')→wpList P #[o] Q' [o] a w):Rs P S Q (o::rest) a w:=by
 have h1:=h (fun e a' w'=>e=.normal∧S w'∧Rs P S Q rest a' w') (fun a' w' h1 h2=>⟨rfl,h1,h2⟩);unfold wpList at h1;rw[if_pos (by simp[Region.wanted,hg])]at h1;rcases h1 with h1 | ⟨_,a,w,h2,_⟩
 ·exact Mk (fun a' w' h2=>h2.2) (fun e a' w' hne h2=>hne h2.1) h1
 ·cases h2
def Bo (md:Region.Mode) (ops:Array Oper):Array Bool→List Nat→Array Bool×Bool
 | listed,[]=>(listed,true)
 | listed,i::is=>((Bo md ops (listed.setIfInBounds i true) is).1,(Region.ready md ops listed).contains i&&Region.free md ops listed i&&(Bo md ops (listed.setIfInBounds i true) is).2)
def Zi (md:Region.Mode) (ops:Array Oper):Array Bool→List Nat→Bool
 | listed,[]=>Region.ready md ops listed==[]
 | listed,i::is=>(Region.ready md ops listed==[i])&&(match ops[i]? with | some o=>o.guard==none | none=>false)&&Zi md ops (listed.setIfInBounds i true) is
def pick (l:List Oper):List Nat→List Oper
 | []=>[]
 | i::is=>match l[i]? with | some o=>o::pick l is | none=>[]
variable {Q : Exit → Act → World → Prop} {l : List Oper}
theorem Tt:∀(ts:List Nat) (lt:List Oper) (listed:Array Bool) (a:Act) (w:World),pick l ts=lt→lt.length=ts.length→Zi md l.toArray listed ts=true→Rs P S (fun a w=>Q .normal a w) lt a w→wpAnyH P md l.toArray Q S ts.length listed a w
 | [],lt,listed,a,w,hp,_,hB,h=>by
  subst hp;exact ⟨by simpa [Zi] using hB,h⟩
 | i::is,lt,listed,a,w,hp,hl,hB,h=>by
  simp only[Zi,Bool.and_eq_true,beq_iff_eq]at hB;obtain⟨⟨hr,hg⟩,hB⟩:=hB;simp only[pick]at hp;cases hi:l[i]? with
  | none=>rw[hi]at hp;subst hp;simp at hl
  | some o=>
   rw[hi]at hp;subst hp;refine ⟨fun h0=>(by rw[hr]at h0;cases h0),fun j hj=>?_⟩;rw[hr]at hj;obtain rfl:j=i:=by simpa using hj
   have aA:l.toArray[j]?=some o:=by simpa using hi
   have aB:o.guard=none:=by rw[aA]at hg;simpa using hg
   unfold wpOp;simp only[aA];rw[if_pos (by simp[Region.wanted,aB])];refine .inl (Mk (fun a' w' h2=>⟨h2.1,Tt is _ _ a' w' rfl (by simpa using hl) hB h2.2⟩) (fun _ _ _ _ h=>h.elim) h)
theorem Ix:∀(qs:List Nat) (lq:List Oper) (fuel:Nat) (listed:Array Bool) (a:Act) (w:World),pick l qs=lq→lq.length=qs.length→Region.noSelect l.toArray=true→(Bo md l.toArray listed qs).2=true→S w→
 (∀c a a' w,Q (.panic c) a w→Q (.panic c) a' w)→
 Wc P l.toArray S (fun a'=>wpAnyH P md l.toArray Q S fuel (Bo md l.toArray listed qs).1 a' w) lq a→wpAnyH P md l.toArray Q S (fuel+qs.length) listed a w
 | [],lq,fuel,listed,a,w,hp,_,_,hB,hS,_,h=>by subst hp;exact h
 | i::is,lq,fuel,listed,a,w,hp,hl,hs,hB,hS,hQ,h=>by
  simp only[Bo,Bool.and_eq_true]at hB;obtain⟨⟨hr,hf⟩,hB⟩:=hB;simp only[pick]at hp;cases hi:l[i]? with
  | none=>rw[hi]at hp;subst hp;simp at hl
  | some o=>
   rw[hi]at hp;subst hp;obtain⟨v,hy,h⟩:=h;have aA:l.toArray[i]?=some o:=by simpa using hi
   exact A1q aA (Region.noSelect_spec hs) hQ _ _ _ _ (Region.free_spec aA hf) (by simpa using hr) hy hS (Ix is _ fuel _ _ w rfl (by simpa using hl) hs hB hS hQ h)
def Xo (Q:Exit→Act→World→Prop):Exit→Act→World→Prop
 | .panic _,_,_=>False
 | e,a,w=>Q e a w
theorem A1v {Q:Exit→Act→World→Prop} (e:Exit) (a:Act) (w:World) (h:Xo Q e a w):Q e a w:=by
 cases e<;>first | exact h | exact h.elim
theorem Ot (S:World→Prop) (qs ts:List Nat) {id:Nat} {a:Act} {w:World} {lq lt:List Oper} (hm:P.follows .mixedOrders=true) (hs:Region.noSelect l.toArray=true)
 (h1:(Bo .any l.toArray (Array.replicate l.length false) qs).2=true) (h2:Zi .any l.toArray (Bo .any l.toArray (Array.replicate l.length false) qs).1 ts=true)
 (hq:pick l qs=lq) (ht:pick l ts=lt) (hn:(lq.length==qs.length&&lt.length==ts.length&&(qs.length+ts.length==l.length))=true) (hd:Cp a.tmps.size lq=true) (hS:S w.drew)
 (A:Act) (h:∀W,S W→wpQuiet P l.toArray (fun w'=>w'=W) (fun a'=>a'=A) lq a) (ht:S w.drew→Rs P S (fun a w=>Q .normal a w) lt A w.drew):(Code.region id l.toArray true).wp P Q a w:=by
 simp only[Bool.and_eq_true,beq_iff_eq]at hn;obtain⟨⟨n1,n2⟩,n3⟩:=hn;refine Code.wp_mono A1v (wp_region_held (S:=S) hm ?_);have e:l.toArray.size=ts.length+qs.length:=by simp;omega
 have e2:Array.replicate l.toArray.size false=Array.replicate l.length false:=by simp
 rw[e2,e];exact Ix qs lq ts.length _ a _ hq n1 hs h1 hS (fun _ _ _ _ h=>h) (Ir (fun a' ha=>by subst ha;exact Tt ts lt _ _ _ (by assumption) n2 h2 (ht hS)) lq a (Cx _ hS lq a hd h))
end
section
variable {P : Program} {l : List Oper} {Q : Exit → Act → World → Prop} {S : World → Prop} {a : Act} {w : World}
def J0 (n:Nat) (done:List Nat):Array Bool:=done.foldl (fun m i=>m.setIfInBounds i true) (Array.replicate n false)
def P6 (P:Program) (l:List Oper) (Q:Exit→Act→World→Prop) (S:World→Prop) (done:List Nat) (a:Act) (w:World):Prop:=
 wpAnyH P .any l.toArray (Xo Q) S (l.length-done.length) (J0 l.length done) a w
theorem E3 (S:World→Prop) {id:Nat} (hm:P.follows .mixedOrders=true) (h:P6 P l Q S [] a w.drew):(Code.region id l.toArray true).wp P Q a w:=by
 refine Code.wp_mono A1v (wp_region_held (S:=S) hm ?_);have e:l.toArray.size=l.length:=by simp
 rw[e];exact h
theorem Mj:∀(qs:List Nat) (listed:Array Bool),(Bo .any l.toArray listed qs).1=qs.foldl (fun m i=>m.setIfInBounds i true) listed
 | [],_=>rfl
 | _::qs,_=>by simp only[Bo,List.foldl_cons];exact Mj qs _
theorem C5 {done:List Nat} (qs:List Nat) {lq:List Oper} (hs:Region.noSelect l.toArray=true) (h1:(Bo .any l.toArray (J0 l.length done) qs).2=true)
 (hq:pick l qs=lq) (hn:(lq.length==qs.length&&decide (done.length+qs.length≤l.length))=true) (hd:Cp a.tmps.size lq=true) (hS:S w)
 (A:Act) (h:∀W,S W→wpQuiet P l.toArray (fun w'=>w'=W) (fun a'=>a'=A) lq a) (hr:P6 P l Q S (done++qs) A w):P6 P l Q S done a w:=by
 simp only[Bool.and_eq_true,beq_iff_eq,decide_eq_true_eq]at hn;unfold P6 at *;rw[show l.length-done.length=(l.length-(done++qs).length)+qs.length by simp;omega];refine Ix qs lq _ _ a w hq hn.1 hs h1 hS (fun _ _ _ _ h=>h) (Ir (fun a' ha=>?_) lq a (Cx w hS lq a hd h));subst ha;rw[Mj];unfold J0 at hr ⊢;rw[List.foldl_append]at hr;exact hr
def Ey (l:List Oper) (done rs:List Nat):Bool:=Region.ready .any l.toArray (J0 l.length done)==rs&&decide (done.length<l.length)
def E5 (o:Oper):Oper:={ o with guard:=none }
theorem B9i {o:Oper} {K:Act→World→Prop} {Q:Exit→Act→World→Prop} (h:(E5 o).wp P a w K Q):o.wp P a w K Q:=h
theorem Ya {done:List Nat} {i:Nat} {o:Oper} (hi:l[i]?=some o) (hg:Region.wanted o (yielded l.toArray a.tmps)=true)
 (h:∀Q':Exit→Act→World→Prop,(∀a' w',S w'→P6 P l Q S (done++[i]) a' w'→Q' .normal a' w')→wpList P #[E5 o] Q' [E5 o] a w) (hlt:done.length<l.length) :
 wpOp P l.toArray (Xo Q) i (fun a' w'=>S w'∧wpAnyH P .any l.toArray (Xo Q) S (l.length-done.length-1) ((J0 l.length done).setIfInBounds i true) a' w') a w:=by
 have h1:=h (fun e a' w'=>e=.normal∧S w'∧P6 P l Q S (done++[i]) a' w') (fun a' w' h1 h2=>⟨rfl,h1,h2⟩);unfold wpList at h1;rw[if_pos (by simp[Region.wanted,E5])]at h1;unfold wpOp;have aA:l.toArray[i]?=some o:=by simpa using hi
 simp only[aA];rw[if_pos hg];rcases h1 with h1 | ⟨_,a,w,h2,_⟩
 ·refine .inl (Mk (fun a' w' h2=>⟨h2.2.1,?_⟩) (fun e a' w' hne h2=>(hne h2.1).elim) (B9i h1));have h3:=h2.2.2;unfold P6 J0 at h3;rw[List.foldl_append]at h3;rw[show l.length-done.length-1=l.length-(done++[i]).length by simp;omega];exact h3
 ·cases h2
theorem Ki {done rs:List Nat} (hr:Ey l done rs=true) (hne:rs≠[])
 (h:∀i∈rs,wpOp P l.toArray (Xo Q) i (fun a' w'=>S w'∧wpAnyH P .any l.toArray (Xo Q) S (l.length-done.length-1) ((J0 l.length done).setIfInBounds i true) a' w') a w):P6 P l Q S done a w:=by
 simp only[Ey,Bool.and_eq_true,beq_iff_eq,decide_eq_true_eq]at hr;unfold P6;rw[show l.length-done.length=(l.length-done.length-1)+1 by omega];exact wpAnyH_all hr.1 hne h
theorem C3 {done:List Nat} (i:Nat) {o:Oper} (hr:Ey l done [i]=true) (hi:l[i]?=some o) (hg:Region.wanted o (yielded l.toArray a.tmps)=true)
 (h:∀Q':Exit→Act→World→Prop,(∀a' w',S w'→P6 P l Q S (done++[i]) a' w'→Q' .normal a' w')→wpList P #[E5 o] Q' [E5 o] a w):P6 P l Q S done a w:=by
 have aA:done.length<l.length:=by simp only[Ey,Bool.and_eq_true,decide_eq_true_eq]at hr;exact hr.2
 refine Ki hr (by simp) fun j hj=>?_;obtain rfl:j=i:=by simpa using hj
 exact Ya hi hg h aA
theorem F0 {done:List Nat} (hr:(Region.ready .any l.toArray (J0 l.length done)==[])=true) (h:Q .normal a w):P6 P l Q S done a w:=by
 unfold P6;exact wpAnyH_done (Q:=Xo Q) (by simpa using hr) h _
end
section
variable {P : Program} {l : List Oper} {Q : Exit → Act → World → Prop} {S : World → Prop}
theorem A3l:∀(L:List Bool) (i:Nat),L[i]?=some false→L.count false=(L.set i true).count false+1
 | [],i,h=>by simp at h
 | b::L,0,h=>by simp at h;subst h;simp
 | b::L,i+1,h=>by
  have:=A3l L i (by simpa using h);simp only[List.set_cons_succ,List.count_cons,this];omega
def inOrder (l:List Oper):Bool:=l.zipIdx.all fun (o,i)=>o.after.all fun e=>!Region.binds .any e||decide (e.on<i)
theorem Ac {i:Nat} {o:Oper} (h:inOrder l=true) (hi:l[i]?=some o):∀e∈o.after,Region.binds .any e=true→e.on<i:=by
 intro e he hb;have h1:=List.all_eq_true.1 h (o,i) (by rw[List.mem_zipIdx_iff_getElem?];exact hi);have h2:=Array.all_eq_true_iff_forall_mem.1 h1 e he;simpa [hb] using h2
theorem Gx {listed:Array Bool} (ho:inOrder l=true) (hs:listed.size=l.length) (hr:Region.ready .any l.toArray listed=[]):∀i,i<l.length→listed.getD i false=true:=by
 intro i;induction i using Nat.strongRecOn with
 | _ i ih=>
  intro hi;apply Classical.byContradiction;intro hn;have aA:i∈Region.ready .any l.toArray listed:=by
   refine mem_ready.2 ⟨?_,l[i],by simp[hi],fun e he hb=>?_⟩
   ·have:i<listed.size:=by omega
    simpa [this] using hn
   ·exact ih e.on (Ac ho (by simp[hi]) e he hb) (by have:=Ac ho (i:=i) (o:=l[i]) (by simp[hi]) e he hb;omega)
  rw[hr]at aA;cases aA
theorem A9j (Inv:Array Bool→Act→World→Prop) (ho:inOrder l=true) (hS:∀listed a w,Inv listed a w→S w)
 (hstep:∀(listed:Array Bool) (a:Act) (w:World) (i:Nat) (o:Oper),Inv listed a w→listed.size=l.length→l[i]?=some o→listed.getD i true=false→(∀e∈o.after,Region.binds .any e=true→listed.getD e.on false=true)→
  ∀K:Act→World→Prop,(∀a' w',Inv (listed.setIfInBounds i true) a' w'→K a' w')→wpOp P l.toArray (Xo Q) i K a w)
 (hend:∀(listed:Array Bool) (a:Act) (w:World),Inv listed a w→(∀i,i<l.length→listed.getD i false=true)→Q .normal a w) :
 ∀(fuel:Nat) (listed:Array Bool) (a:Act) (w:World),listed.size=l.length→listed.toList.count false=fuel→Inv listed a w→wpAnyH P .any l.toArray (Xo Q) S fuel listed a w
 | 0,listed,a,w,hs,hc,hI=>by
  have hall:∀i,i<l.length→listed.getD i false=true:=by
   intro i hi;have aA:i<listed.size:=by omega
   cases hb:listed[i] with
   | true=>simp[aA,hb]
   | false=>
    have:false∈listed.toList:=by
     have:=Array.getElem_mem (xs:=listed) aA;rw[hb]at this;simpa using this
    have:=List.count_pos_iff.2 this;omega
  refine ⟨?_,hend listed a w hI hall⟩;apply List.eq_nil_iff_forall_not_mem.2;intro i hi;obtain⟨h1,o,h2,_⟩:=mem_ready.1 hi;have aA:i<l.length:=by
   have:=(Array.getElem?_eq_some_iff.1 h2).1;simpa using this
  have h3:=hall i aA;have:i<listed.size:=by omega
  simp[this]at h1 h3;rw[h1]at h3;cases h3
 | fuel+1,listed,a,w,hs,hc,hI=>by
  refine ⟨fun hr=>hend listed a w hI (Gx ho hs hr),fun i hi=>?_⟩;obtain⟨h1,o,h2,h3⟩:=mem_ready.1 hi;have aB:l[i]?=some o:=by simpa using h2
  refine hstep listed a w i o hI hs aB h1 h3 _ fun a' w' hI'=>⟨hS _ _ _ hI',A9j Inv ho hS hstep hend fuel _ a' w' (by simpa using hs) ?_ hI'⟩;have aA:i<listed.size:=by
   have:=(Array.getElem?_eq_some_iff.1 h2).1;simp at this;omega
  have h4:listed.toList[i]?=some false:=by
   have:listed[i]=false:=by simpa [aA] using h1
   simp[aA,this]
  have:=A3l listed.toList i h4;simp only[Array.toList_setIfInBounds];omega
theorem A9l {done:List Nat} {a:Act} {w:World} (Inv:Array Bool→Act→World→Prop) (ho:inOrder l=true) (hS:∀listed a w,Inv listed a w→S w)
 (hstep:∀(listed:Array Bool) (a:Act) (w:World) (i:Nat) (o:Oper),Inv listed a w→listed.size=l.length→l[i]?=some o→listed.getD i true=false→(∀e∈o.after,Region.binds .any e=true→listed.getD e.on false=true)→
  ∀K:Act→World→Prop,(∀a' w',Inv (listed.setIfInBounds i true) a' w'→K a' w')→wpOp P l.toArray (Xo Q) i K a w)
 (hend:∀(listed:Array Bool) (a:Act) (w:World),Inv listed a w→(∀i,i<l.length→listed.getD i false=true)→Q .normal a w)
 (hc:((J0 l.length done).toList.count false==l.length-done.length&&(J0 l.length done).size==l.length)=true) (hI:Inv (J0 l.length done) a w):P6 P l Q S done a w:=by
 simp only[Bool.and_eq_true,beq_iff_eq]at hc;exact A9j Inv ho hS hstep hend _ _ a w hc.2 hc.1 hI
theorem Vu {i:Nat} {o:Oper} {a:Act} {w:World} {K:Act→World→Prop} (hi:l[i]?=some o) (hg:o.guard=none)
 (h:∀Q':Exit→Act→World→Prop,(∀a' w',K a' w'→Q' .normal a' w')→wpList P #[o] Q' [o] a w):wpOp P l.toArray (Xo Q) i K a w:=by
 have h1:=h (fun e a' w'=>e=.normal∧K a' w') (fun a' w' h1=>⟨rfl,h1⟩);unfold wpList at h1;rw[if_pos (by simp[Region.wanted,hg])]at h1;unfold wpOp;have aA:l.toArray[i]?=some o:=by simpa using hi
 simp only[aA];rw[if_pos (by simp[Region.wanted,hg])];rcases h1 with h1 | ⟨_,a,w,h2,_⟩
 ·exact .inl (Mk (fun a' w' h2=>h2.2) (fun e a' w' hne h2=>(hne h2.1).elim) h1)
 ·cases h2
end
section
def A8u (tmps:Array Value):ResultVar→Sem Value
 | .tmp t=>pure (tmps.getD t undef)
 | .cell a t=>do loadVar t (←asAddr (tmps.getD a undef))
def H9 (P:Program) (tmps:Array Value) (w:World) (r:ResultVar) (v:Value):Prop:=(A8u tmps r).run P w=.ok v w
theorem Ma (fn:Func) (tmps:Array Value):results fn tmps=(do let vs ←fn.results.mapM (A8u tmps);pure (if h:vs.size=1 then vs[0] else .tuple vs)):=by
 have e:A8u tmps=(fun
  | .tmp t=>pure (tmps.getD t undef)
  | .cell a t=>do loadVar t (←asAddr (tmps.getD a undef))):=by funext r;cases r<;>rfl
 rw[e];rfl
section
variable {P : Program} {fn : Func} {tmps : Array Value} {w : World}
theorem H9.row {p:Tmp} {ty:TypeId} {g:Nat} {t:TypeId} {cs:List Value} (hg:Bk w g t cs) (hp:tmps.getD p undef=.pointer (some ⟨g,0,none⟩)) (d:TypeDesc)
 (hu:P.underlying ty=some d) (hd:(match d with | .struct _ | .array _ _=>true | _=>false)=true) (hi:(P.info? ty).map (·.size)=some cs.length):H9 P tmps w (.cell p ty) (.agg cs.toArray):=by
 unfold H9 A8u;simp only[hp];simp[asAddr,run_loadVar_row w g t ty cs.toArray (0,0) d hg hu hd (by simpa using hi)]
theorem H9.tmp {t:Tmp} {v:Value} (h:tmps.getD t undef=v):H9 P tmps w (.tmp t) v:=by subst h;rfl
theorem I9 {r1 r2:ResultVar} {v1 v2:Value} (h:fn.results=#[r1,r2]) (h1:H9 P tmps w r1 v1) (h2:H9 P tmps w r2 v2):(results fn tmps).run P w=.ok (.tuple #[v1,v2]) w:=by
 unfold H9 at h1 h2;rw[Ma,h];simp[h1,h2]
theorem X6 {r1 r2 r3:ResultVar} {v1 v2 v3:Value} (h:fn.results=#[r1,r2,r3]) (h1:H9 P tmps w r1 v1) (h2:H9 P tmps w r2 v2) (h3:H9 P tmps w r3 v3):(results fn tmps).run P w=.ok (.tuple #[v1,v2,v3]) w:=by
 unfold H9 at h1 h2 h3;rw[Ma,h];simp[h1,h2,h3]
end
end
def F5x (x y:Int):Int:=if y<x then y else x
@[go_sem ↓ high] theorem F1o {P : Program} {w : World} (ts : Array TypeId) (t : TypeId) (k k' : IntKind) (x y : Int) : (Builtin.min_ ts t #[.int k x, .int k' y]).run P w = .ok (.int k (F5x x y)) w := run_min_int2 (P := P) w ts t k k' x y
section
structure More where
 objs:Array Obj
 at_:Nat
instance : Inhabited More := ⟨⟨#[], 0⟩⟩
def ext (w:World) (p:More):World:={ w with heap:=w.heap++p.objs,drawn:=p.at_ }
theorem Jg (w:World) (p:More):Below w.heap.size w (ext w p):=
 ⟨rfl,rfl,rfl,by simp[ext],fun k hk=>by simp[ext,Array.getElem?_append,hk]⟩
section
variable {w : World} {p : More} {a : Addr} {n : Nat}
@[go_sem] theorem E3a (k : Nat) : ext (w.drewN k) p = ext w p := rfl
@[go_sem] theorem E7f : ext w.drew p = ext w p := rfl
@[go_sem] theorem F1u (h : a.block < w.heap.size) : (ext w p).cell? a = w.cell? a := (Jg w p).cell h
@[go_sem] theorem E1n (h : a.block < w.heap.size) : (ext w p).frozen? a = w.frozen? a := (Jg w p).frozen h
@[go_sem] theorem F3g (h : a.block < w.heap.size) : D9 (ext w p) a n = D9 w a n := Bv (Jg w p) h
@[go_sem] theorem F5m (h : a.block < w.heap.size) : E7 (ext w p) a n = E7 w a n :=
 A0u (fun q hq=>(Jg w p).cell (by omega)) (fun q hq=>(Jg w p).frozen (by omega))
end
end
section
def S8 (l:List UInt8):Value:=.string ⟨l.toArray⟩
theorem Kd {w:World} {a:Addr} {n:Nat} {cs:List Value} (h:D9 w a n=some cs):cs.length=n∧∀j (u:Value),cs[j]?=some u→w.cell? (a.add j)=some u:=(Qu (fun j=>w.cell? (a.add j)) n cs).1 h
open Classical in
noncomputable def Hg (cs:List Value):Option (List UInt8):=if h:∃l,cs=c8 l then some h.choose else none
@[go_sem] theorem Xb (l : List UInt8) : Hg (c8 l) = some l := by
 have h:∃m,c8 l=c8 m:=⟨l,rfl⟩;unfold Hg;rw[dif_pos h];exact congrArg some ((List.map_inj_right fun _ _=>Ts).1 h.choose_spec).symm
theorem B0j {cs:List Value} {l:List UInt8} (h:Hg cs=some l):cs=c8 l:=by
 unfold Hg at h;split at h
 ·rename_i hh
  injection h with h;rw[←h];exact hh.choose_spec
 ·cases h
noncomputable def Zr (w:World) (raw:Result Next):Value→Result Next
 | .slice (some a) n _=>match (D9 w a n).bind Hg with
  | some l=>.ok (.value (S8 l)) w
  | none=>raw
 | .slice none n _=>if n=0 then .ok (.value (S8 [])) w else raw
 | _=>raw
@[go_sem] theorem E1d (w : World) (raw : Result Next) (c : Nat) : Zr w raw (.slice none 0 c) = .ok (.value (S8 [])) w := rfl
@[go_sem] theorem D0c (w : World) (raw : Result Next) (a : Addr) (n c : Nat) : Zr w raw (.slice (some a) n c) = match (D9 w a n).bind Hg with
 | some l=>.ok (.value (S8 l)) w
 | none=>raw:=rfl
@[go_sem] theorem F4l (l : List UInt8) : (some (c8 l)).bind Hg = some l := Xb l
theorem B6q (l:List UInt8):∀(b:ByteArray),(l.map (fun x=>n8 x)).foldl (fun r n=>r.push (UInt8.ofNat n.toNat)) b=⟨b.data++l.toArray⟩:=by
 induction l with
 | nil=>intro b;simp
 | cons x l ih=>
  intro b;rw[List.map_cons,List.foldl_cons,ih];have e:UInt8.ofNat (n8 x).toNat=x:=by unfold n8;simp
  rw[e];congr 1;apply Array.ext';simp[ByteArray.push]
theorem C5d {P:Program} (w:World) (ρ:Operand→Value) (dst:Option Tmp) (ty:TypeId) (pos:String) (after:Array Edge) (guard:Option (Nat×Bool)) (s t e:TypeId) (x:Operand)
 (hs:P.underlying s=some (.slice e)) (he:P.underlying e=some (.int .u8)) (hd:P.underlying t=some .string) :
 (execOp ρ { dst,op:=.convert s t x,type:=ty,pos,after,guard }).run P w=Zr w (F2 P ρ { dst,op:=.convert s t x,type:=ty,pos,after,guard } w) (ρ x):=by
 generalize hv:ρ x=v;unfold Zr;split
 ·rename_i a n c
  split
  ·rename_i l hl
   rw[Option.bind_eq_some_iff]at hl;obtain⟨cs,h1,h2⟩:=hl;have h3:=B0j h2;subst h3;obtain⟨aA,hc⟩:=Kd h1;have h4:(loadCells a n).run P w=.ok ((l.map (fun x=>n8 x)).map (Value.int .u8)).toArray w:=by
    have:=run_loadCells_list (P:=P) (w:=w) a (c8 l) hc;rw[aA]at this;rw[this];simp[c8,v8]
   have h5:=run_bytesToString (P:=P) w a n c (l.map fun x=>n8 x) h4;rw[B6q]at h5;have h6:=run_convert_bytes_string (P:=P) w s t e (some a) n c hs he hd;unfold execOp;simp only[Sem.run_bind,hv];rw[h6,h5];simp only[Result.andThen_ok];show Result.ok (Next.value (Value.string _)) w=_;simp[S8]
  ·rfl
 ·rename_i n c
  split
  ·rename_i h0
   subst h0;have h6:=run_convert_bytes_string (P:=P) w s t e none 0 c hs he hd;unfold execOp;simp only[Sem.run_bind,hv];rw[h6];rfl
  ·rfl
 ·rfl
def D5r (neg:Bool) (w:World) (raw:Result Next):Value→Value→Result Next
 | .string s,.string t=>.ok (.value (.bool (neg != (s.data.toList==t.data.toList)))) w
 | _,_=>raw
@[go_sem] theorem F4p (neg : Bool) (w : World) (raw : Result Next) (l m : List UInt8) : D5r neg w raw (S8 l) (S8 m) = .ok (.value (.bool (neg != (l == m)))) w := rfl
@[go_sem] theorem E6h (neg : Bool) (w : World) (raw : Result Next) (s t : ByteArray) : D5r neg w raw (.string s) (.string t) = .ok (.value (.bool (neg != (s.data.toList == t.data.toList)))) w := rfl
theorem By.takes {w:World} {lo B:Nat} {A:Option Addr} {n c:Nat} {l:List UInt8} (h:By w lo B (.slice A n c) l) {k:Nat} (hk:k≤n):By w lo B (.slice A k c) (l.take k):=by
 obtain⟨A2,c2,e,h2,h3,h4⟩:=h.open_;injection e with e1 e2 e3;subst e1;subst e3;subst e2;have hl:(l.take k).length=k:=by rw[List.length_take];omega
 have:=By.mk_ (w:=w) (lo:=lo) (B:=B) (A:=A) (c:=c) (l:=l.take k) (by omega) (by unfold maxLen;exact h3) (by rw[List.map_take];exact h4.take k);rwa [hl]at this
theorem By.drops {w:World} {lo B:Nat} {A:Option Addr} {n c:Nat} {l:List UInt8} (h:By w lo B (.slice A n c) l) {k:Nat} (hk:k≤n):By w lo B (.slice (if c=k then A else A.map (·.add k)) (n-k) (c-k)) (l.drop k):=by
 obtain⟨A2,c2,e,h2,h3,h4⟩:=h.open_;injection e with e1 e2 e3;subst e1;subst e3;subst e2;have hl:(l.drop k).length=l.length-k:=by rw[List.length_drop]
 have:=By.mk_ (w:=w) (lo:=lo) (B:=B) (A:=if c=k then A else A.map (·.add k)) (c:=c-k) (l:=l.drop k) (by omega) (by unfold maxLen;omega) (by rw[List.map_drop];exact h4.cut (by simpa using h2));rwa [hl]at this
theorem By.row {w:World} {lo B:Nat} {v:Value} {l:List UInt8} (h:By w lo B v l) (hl:0<l.length):∃g o c,v=.slice (some ⟨g,o,none⟩) l.length c∧l.length≤c∧c≤9223372036854775807∧lo≤g∧g<B∧D9 w ⟨g,o,none⟩ l.length=some (c8 l):=by
 obtain⟨A,c,rfl,h2,h3,h4⟩:=h.open_;obtain⟨g,o,rfl,hg,hB,hc⟩:=h4.some (by simpa using hl);exact ⟨g,o,c,rfl,h2,h3,hg,hB,Z0.2 ⟨by simp,hc⟩⟩
theorem D0i {w:World} {lo B:Nat} {v:Value} {l:List UInt8} (h:By w lo B v l) (raw:Result Next):Zr w raw v=.ok (.value (S8 l)) w:=by
 obtain⟨A,c,rfl,h2,h3,h4⟩:=h.open_;cases A with
 | none=>
  rcases h4 with h4 | ⟨g,o,h4,_⟩
  ·have:l=[]:=by simpa using h4
   subst this;rfl
  ·cases h4
 | some a=>
  have hr:D9 w a l.length=some (c8 l):=by
   rcases h4 with h4 | ⟨g,o,h4,_,_,hc⟩
   ·have:l=[]:=by simpa using h4
    subst this;rfl
   ·injection h4 with h4;subst h4;exact Z0.2 ⟨by simp,hc⟩
  rw[D0c,hr];simp[Xb]
section
variable (w : World) (ρ : Operand → Value) (dst : Option Tmp) (ty : TypeId) (pos : String) (after : Array Edge) (guard : Option (Nat × Bool))
@[go_sem ↓ high] theorem E3b (x : Operand) :
 (execOp ρ { dst,op:=.convert 29 9 x,type:=ty,pos,after,guard }).run Tryz.prog w=Zr w (F2 Tryz.prog ρ { dst,op:=.convert 29 9 x,type:=ty,pos,after,guard } w) (ρ x):=
 C5d w ρ dst ty pos after guard 29 9 5 x Tryz.underlying29 Tryz.underlying5 Tryz.underlying9
theorem A9s (s:ByteArray):s.toList=s.data.toList:=by
 have:=ByteArray.toList_loop_eq s _ 0 [] rfl (Nat.zero_le _);simpa [ByteArray.toList] using this
@[go_sem ↓ high] theorem F5k (x y : Operand) (yt : TypeId) :
 (execOp ρ { dst,op:=.binOp .eql 9 x y yt,type:=ty,pos,after,guard }).run Tryz.prog w=D5r false w (F2 Tryz.prog ρ { dst,op:=.binOp .eql 9 x y yt,type:=ty,pos,after,guard } w) (ρ x) (ρ y):=by
 generalize hx:ρ x=a;generalize hy:ρ y=b;unfold D5r;split
 ·rename_i s t
  simp only[execOp,hx,hy,eqGuard_at_string,binOp_string_eql,A9s];simp
 ·rfl
end
end
section
section
variable {P : Program} {l : List Oper} {Q : Exit → Act → World → Prop} {S : World → Prop} {a : Act} {w : World}
theorem HO' {done : List Nat} (i : Nat) {o : Oper} (h : ∀ Q' : Exit → Act → World → Prop, (∀ a' w', S w' → P6 P l Q S (done ++ [i]) a' w' → Q' .normal a' w') → wpList P #[E5 o] Q' [E5 o] a w)
    (hr : Ey l done [i] = true := by kernel_rfl) (hi : l[i]? = some o := by rfl) (hg : Region.wanted o (yielded l.toArray a.tmps) = true := by rfl) : P6 P l Q S done a w := C3 i hr hi hg h
theorem HE' {done : List Nat} (h : Q .normal a w) (hr : (Region.ready .any l.toArray (J0 l.length done) == []) = true := by kernel_rfl) : P6 P l Q S done a w := F0 hr h
theorem HQ' {done : List Nat} (qs : List Nat) {lq : List Oper} (hS : S w)
    (A : Act) (h : ∀ W, S W → wpQuiet P l.toArray (fun w' => w' = W) (fun a' => a' = A) lq a) (hr : P6 P l Q S (done ++ qs) A w)
    (hs : Region.noSelect l.toArray = true := by kernel_rfl) (h1 : (Bo .any l.toArray (J0 l.length done) qs).2 = true := by kernel_rfl)
    (hq : pick l qs = lq := by rfl) (hn : (lq.length == qs.length && decide (done.length + qs.length ≤ l.length)) = true := by kernel_rfl) (hd : Cp a.tmps.size lq = true := by kernel_rfl) : P6 P l Q S done a w := C5 qs hs h1 hq hn hd hS A h hr
theorem HB' (S : World → Prop) {id : Nat} (h : P6 P l Q S [] a w.drew) (hm : P.follows .mixedOrders = true := by kernel_rfl) : (Code.region id l.toArray true).wp P Q a w := E3 S hm h
end
theorem QE' {P : Prop} (h : P := by
  simp only [pick, List.getElem?_cons_zero, List.getElem?_cons_succ]
  repeat (go_big_quiet_step (fail))
  refine wpQuiet_nil ?_
  rfl) : P := h
end
end Go.Proofs.YtdfpoofbgjilgaaGreat
