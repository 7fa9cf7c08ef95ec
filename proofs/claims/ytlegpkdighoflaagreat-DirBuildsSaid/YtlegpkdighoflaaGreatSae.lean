/- A part of the proof of DirBuilds. -/
import Derived.Stop.BytesEq
import Derived.Lib.SlBytesConst
import Derived.OrdersHeld
import Derived.Deep.RegionHeld3
import Derived.Deep.Quiet
import Derived.BigQuiet
import Derived.StillTail
import Derived.WalkKit
import Derived.Laws.Small
import Derived.Laws.BytesString
import Derived.KernelRfl
import Derived.Test.YtlegpkdighoflaaGreatSad
set_option linter.unusedVariables false
set_option linter.unusedSimpArgs false
set_option maxRecDepth 100000
set_option maxHeartbeats 40000000
namespace Go.Proofs.YtlegpkdighoflaaGreat
open Go Go.RowKit Sh
section
theorem Ny (g:Nat):∀(vs:List Value) (o:Nat) (w:World) (x:Addr),((w.setCells g o vs).cell? x).isSome=(w.cell? x).isSome
 | [],_,_,_=>rfl
 | v::r,o,w,x=>by
  rw[World.setCells,Ny g r (o+1) _ x];by_cases h:x.block=g
  ·unfold World.cell? World.setCell;simp only[Array.getElem?_modify,h,if_true];cases w.heap[g]? with
   | none=>rfl
   | some ob=>
    cases ob with
    | cells c e f=>
     simp only[Option.map_some,Option.isSome_none,Bool.false_eq_true,if_false];split
     ·rfl
     ·rw[Array.getElem?_setIfInBounds];split
      ·rename_i hx
       subst hx;split
       ·rename_i hl;simp[Array.getElem?_eq_getElem hl]
       ·rename_i hl;simp[Array.getElem?_eq_none (Nat.le_of_not_lt hl)]
      ·rfl
    | _=>rfl
  ·rw[World.cell?_of_block (Below.heap_setCell w ⟨g,o,none⟩ v x.block (by simpa using h))]
@[go_sem] theorem D4x (w : World) (p a : Addr) (vs : List Value) (n : Nat) : E8 (C9 w p vs) a n = E8 w a n := by
 unfold E8 C9;congr 1;funext j;rw[Ny,World.frozen?_setCells]
@[go_sem] theorem D4n (w : World) (p a : Addr) (vs : List Value) (n : Nat) (h : a.block ≠ p.block) : E5 (C9 w p vs) a n = E5 w a n :=
 Np fun q hq=>World.cell?_of_block (Aj _ _ _ _ _ (by omega))
@[go_sem] theorem C8y (w : World) (p a : Addr) (v : Value) (n : Nat) (h : a.block ≠ p.block) : E5 (w.setCell p v) a n = E5 w a n :=
 C1v v h
@[go_sem] theorem D3h (w : World) (p a : Addr) (vs : List Value) (h : a.block ≠ p.block) : (C9 w p vs).cell? a = w.cell? a :=
 World.cell?_of_block (Aj _ _ _ _ _ h)
@[go_sem] theorem C8z (w : World) (p a : Addr) (vs : List Value) : (C9 w p vs).frozen? a = w.frozen? a := World.frozen?_setCells _ _ _ _ _
@[go_sem] theorem D8d (w : World) (A : Obj) (cs : List Value) (t n : Nat) (h : cs.length = n) : E5 ((w.alloc A).alloc (.cells cs.toArray t)) ⟨w.heap.size + 1, 0, none⟩ n = some cs := by
 have:=C1m (w.alloc A) cs t n h;simpa using this
@[go_sem] theorem D7v (w : World) (A : Obj) (cs : List Value) (t n : Nat) (h : cs.length = n) : E8 ((w.alloc A).alloc (.cells cs.toArray t)) ⟨w.heap.size + 1, 0, none⟩ n = true := by
 have:=C1c (w.alloc A) cs t n h;simpa using this
open Classical in
noncomputable def Cf (v:Value):Option (List UInt8):=if h:∃l,v=A8 l then some h.choose else none
theorem B7c {x y:UInt8} (h:v8 x=v8 y):x=y:=by
 unfold v8 at h;injection h with _ h;exact C3q h
theorem C7a {xs ys:List UInt8} (h:A8 xs=A8 ys):xs=ys:=by
 unfold A8 c8 at h;injection h with h;have h2:xs.map v8=ys.map v8:=by injection h
 exact (List.map_inj_right fun _ _=>B7c).1 h2
theorem Cw (l:List UInt8):Cf (A8 l)=some l:=by
 have h:∃m,A8 l=A8 m:=⟨l,rfl⟩;unfold Cf;rw[dif_pos h];exact congrArg some (C7a h.choose_spec).symm
theorem T5 {v:Value} {l:List UInt8} (h:Cf v=some l):v=A8 l:=by
 unfold Cf at h;split at h
 ·rename_i hh
  injection h with h;rw[←h];exact hh.choose_spec
 ·cases h
noncomputable def Sb (neg:Bool) (n:Nat) (w:World) (raw:Result Next) (a b:Value):Result Next:=
 match Cf a,Cf b with
 | some xs,some ys=>if xs.length=n∧ys.length=n then .ok (.value (.bool (neg != (xs==ys)))) w else raw
 | _,_=>raw
@[go_sem] theorem E1v (neg : Bool) (n : Nat) (w : World) (raw : Result Next) (xs ys : List UInt8) (hx : xs.length = n) (hy : ys.length = n) : Sb neg n w raw (A8 xs) (A8 ys) = .ok (.value (.bool (neg != (xs == ys)))) w := by
 unfold Sb;rw[Cw,Cw];exact if_pos ⟨hx,hy⟩
section
variable {P : Program} (w : World) (ρ : Operand → Value) (dst : Option Tmp) (ty : TypeId) (pos : String) (after : Array Edge) (guard : Option (Nat × Bool))
theorem A9v (t e n:TypeId) (x y:Operand) (yt:TypeId) (hu:P.underlying t=some (.array n e)) (he:P.underlying e=some (.int .u8)) (hi:(P.info? e).map (·.size)=some 1) (hg:P.eqGuardType P.depth t=false) :
 (execOp ρ { dst,op:=.binOp .eql t x y yt,type:=ty,pos,after,guard }).run P w=Sb false n w (M6 P ρ { dst,op:=.binOp .eql t x y yt,type:=ty,pos,after,guard } w) (ρ x) (ρ y):=by
 generalize hv:ρ x=a;generalize hz:ρ y=b;unfold Sb;split
 ·rename_i xs ys h1 h2
  replace h1:=T5 h1;replace h2:=T5 h2;split
  ·rename_i h
   obtain⟨h3,h4⟩:=h;have aA:∀w,(sizeOf e).run P w=.ok 1 w:=fun w=>by
    cases hq:P.info? e with
    | none=>simp[hq]at hi
    | some j=>simp[hq]at hi;simp[sizeOf,typeInfo,hq,hi]
   have aB:(eqGuard .eql t x y a b).run P w=.ok () w:=by rw[h1,h2];exact run_eqGuard_agg (P:=P) w .eql t x y _ _ hg
   have e1:(binOp .eql t a b).run P w=.ok (.bool (xs==ys)) w:=by rw[h1,h2];exact run_eql_bytes (P:=P) w t e n hu he aA _ _ h3 h4
   simp only[execOp,hv,hz,Sem.run_bind,aB,Result.andThen_ok,e1,Sem.run_pure];simp
  ·rfl
 ·rfl
theorem B2i (t e n:TypeId) (x y:Operand) (yt:TypeId) (hu:P.underlying t=some (.array n e)) (he:P.underlying e=some (.int .u8)) (hi:(P.info? e).map (·.size)=some 1) (hg:P.eqGuardType P.depth t=false) :
 (execOp ρ { dst,op:=.binOp .neq t x y yt,type:=ty,pos,after,guard }).run P w=Sb true n w (M6 P ρ { dst,op:=.binOp .neq t x y yt,type:=ty,pos,after,guard } w) (ρ x) (ρ y):=by
 generalize hv:ρ x=a;generalize hz:ρ y=b;unfold Sb;split
 ·rename_i xs ys h1 h2
  replace h1:=T5 h1;replace h2:=T5 h2;split
  ·rename_i h
   obtain⟨h3,h4⟩:=h;have aA:∀w,(sizeOf e).run P w=.ok 1 w:=fun w=>by
    cases hq:P.info? e with
    | none=>simp[hq]at hi
    | some j=>simp[hq]at hi;simp[sizeOf,typeInfo,hq,hi]
   have aB:(eqGuard .neq t x y a b).run P w=.ok () w:=by rw[h1,h2];exact run_eqGuard_agg (P:=P) w .neq t x y _ _ hg
   have e1:(binOp .neq t a b).run P w=.ok (.bool (!(xs==ys))) w:=by rw[h1,h2,A8,A8,run_neq_struct];exact congrArg (fun r:Result Bool=>r.andThen fun b w'=>Result.ok (Value.bool (!b)) w') (run_equalIn_bytes (P:=P) w 9998 t e n hu he aA _ _ h3 h4)
   simp only[execOp,hv,hz,Sem.run_bind,aB,Result.andThen_ok,e1,Sem.run_pure];simp
  ·rfl
 ·rfl
end
@[go_sem ↓ high] theorem F0a (w : World) (ρ : Operand → Value) (dst : Option Tmp) (ty : TypeId) (pos : String) (after : Array Edge) (guard : Option (Nat × Bool)) (x y : Operand) (yt : TypeId) :
 (execOp ρ { dst,op:=.binOp .eql 23 x y yt,type:=ty,pos,after,guard }).run Tryz.prog w=Sb false 32 w (M6 Tryz.prog ρ { dst,op:=.binOp .eql 23 x y yt,type:=ty,pos,after,guard } w) (ρ x) (ρ y):=
 A9v w ρ dst ty pos after guard 23 5 32 x y yt Tryz.underlying23 Tryz.underlying5 (by kernel_rfl) (by kernel_rfl)
@[go_sem ↓ high] theorem E9y (w : World) (ρ : Operand → Value) (dst : Option Tmp) (ty : TypeId) (pos : String) (after : Array Edge) (guard : Option (Nat × Bool)) (x y : Operand) (yt : TypeId) :
 (execOp ρ { dst,op:=.binOp .neq 23 x y yt,type:=ty,pos,after,guard }).run Tryz.prog w=Sb true 32 w (M6 Tryz.prog ρ { dst,op:=.binOp .neq 23 x y yt,type:=ty,pos,after,guard } w) (ρ x) (ρ y):=
 B2i w ρ dst ty pos after guard 23 5 32 x y yt Tryz.underlying23 Tryz.underlying5 (by kernel_rfl) (by kernel_rfl)
@[go_sem ↓ high] theorem F0c (w : World) (ρ : Operand → Value) (dst : Option Tmp) (ty : TypeId) (pos : String) (after : Array Edge) (guard : Option (Nat × Bool)) (x y : Operand) (yt : TypeId) :
 (execOp ρ { dst,op:=.binOp .eql 61 x y yt,type:=ty,pos,after,guard }).run Tryz.prog w=Sb false 64 w (M6 Tryz.prog ρ { dst,op:=.binOp .eql 61 x y yt,type:=ty,pos,after,guard } w) (ρ x) (ρ y):=
 A9v w ρ dst ty pos after guard 61 5 64 x y yt Tryz.underlying61 Tryz.underlying5 (by kernel_rfl) (by kernel_rfl)
@[go_sem ↓ high] theorem E7z (w : World) (ρ : Operand → Value) (dst : Option Tmp) (ty : TypeId) (pos : String) (after : Array Edge) (guard : Option (Nat × Bool)) (x y : Operand) (yt : TypeId) :
 (execOp ρ { dst,op:=.binOp .neq 61 x y yt,type:=ty,pos,after,guard }).run Tryz.prog w=Sb true 64 w (M6 Tryz.prog ρ { dst,op:=.binOp .neq 61 x y yt,type:=ty,pos,after,guard } w) (ρ x) (ρ y):=
 B2i w ρ dst ty pos after guard 61 5 64 x y yt Tryz.underlying61 Tryz.underlying5 (by kernel_rfl) (by kernel_rfl)
end
theorem By.build (w:World) (t:TypeId) (fr:Nat×Nat) (l:List UInt8) (hl:l.length≤9223372036854775807):By (w.alloc (.cells (l.map v8).toArray t fr)) 0 (w.heap.size+1) (.slice (some ⟨w.heap.size,0,none⟩) l.length l.length) l:=
 By.mk_ (Nat.le_refl _) (by simpa [maxLen] using hl) (.inr ⟨_,_,rfl,Nat.zero_le _,by omega,fun j u hj=>by
  rw[Nat.zero_add,cell_of_row _ w.heap.size j (l.map v8).toArray t fr (heap_alloc_new w _)];simpa using hj⟩)
theorem L6.build (w:World) (t:TypeId) (vs:List Value) (ls:List (List UInt8)) (hl:vs.length=ls.length) (hm:ls.length≤9223372036854775807)
 (h:∀(i:Nat) (x:Value) (l:List UInt8),vs[i]?=some x→ls[i]?=some l→By w 0 w.heap.size x l) :
 L6 (w.alloc (.cells vs.toArray t)) (w.heap.size+1) (.slice (some ⟨w.heap.size,0,none⟩) vs.length vs.length) ls:=
 ⟨vs,⟨_,_,rfl,Nat.le_refl _,by simp[maxLen];omega,.inr ⟨_,_,rfl,Nat.zero_le _,by omega,fun j u hj=>by rw[Nat.zero_add];exact (Bk.new w t vs).at_ hj⟩⟩,hl,
  fun i x l hx hl=>((h i x l hx hl).below ((Below.refl _ _).alloc (Nat.le_refl _) _)).more (by omega)⟩
theorem L6.one (w:World) (t:TypeId) (x:Value) (l:List UInt8) (h:By w 0 w.heap.size x l):L6 (w.alloc (.cells #[x] t)) (w.heap.size+1) (.slice (some ⟨w.heap.size,0,none⟩) 1 1) [l]:=
 L6.build w t [x] [l] rfl (by simp) fun i y m hy hm=>by
  match i,hy,hm with
  | 0,hy,hm=>simp at hy hm;subst hy;subst hm;exact h
  | i+1,hy,hm=>simp at hy
section
variable {P : Program} {ops : Array Oper} {md : Region.Mode} {S : World → Prop}
def Z8 (P:Program) (ops:Array Oper) (S:World→Prop) (o:Oper) (v:Value) (a:Act):Prop:=
 (Region.wanted o (yielded ops a.tmps)=true∧∀w,S w→o.quietAt P a (fun w'=>w'=w) w v)∨
 (Region.wanted o (yielded ops a.tmps)=false∧v=undef)
theorem Z8.op {i:Nat} {o:Oper} {v:Value} {a:Act} {K:Act→World→Prop} {Q:Exit→Act→World→Prop} {w:World} (hy:Z8 P ops S o v a) (hi:ops[i]?=some o) (hS:S w) (h:K (a.put o.dst v) w):wpOp P ops Q i K a w:=by
 unfold wpOp;simp only[hi];rcases hy with ⟨hw,hv⟩ | ⟨hw,rfl⟩
 ·rw[if_pos hw];exact .inl (Oper.wp_of_quiet (C:=fun w'=>w'=w) (K:=fun a'=>K a' w) rfl (fun a' w' hw' hK=>by rw[hw'];exact hK) ⟨v,fun w' hw'=>by rw[hw'];exact hv w hS,h⟩)
 ·rw[if_neg (by rw[hw];simp)];exact h
theorem Z8.alike {o:Oper} {v:Value} {a a':Act} (hy:Z8 P ops S o v a) (he:execOp a'.eval o=execOp a.eval o) (hw:Region.wanted o (yielded ops a'.tmps)=Region.wanted o (yielded ops a.tmps)):Z8 P ops S o v a':=by
 unfold Z8 Oper.quietAt at *;rw[he,hw];exact hy
theorem Xh {j:Nat} {oi oj:Oper} {v:Value} {Q:Exit→Act→World→Prop} (hj:ops[j]?=some oj) (hap:oi.apart ops oj=true) (hsi:∀cs b,oi.op≠.select cs b) (hsj:∀cs b,oj.op≠.select cs b)
 (hQ:∀c a a' w,Q (.panic c) a w→Q (.panic c) a' w) {K:Act→World→Prop} {a:Act} {w:World} (hy:Z8 P ops S oi v a) (h:wpOp P ops Q j K (a.put oi.dst v) w) :
 wpOp P ops Q j (fun a' w'=>Z8 P ops S oi v a'∧K (a'.put oi.dst v) w') a w:=by
 obtain⟨h1,h2,h3⟩:=Oper.apart_spec hap;have stays:∀(b:Act) (u:Value),Z8 P ops S oi v b→Z8 P ops S oi v (b.put oj.dst u):=fun b u hb=>
  hb.alike (execOp_put oi hsi b oj.dst u h3) (wanted_put oi b oj.dst u h3)
 have aA:∀(b:Act) (u:Value) (w:World),K ((b.put oi.dst v).put oj.dst u) w→K ((b.put oj.dst u).put oi.dst v) w:=fun b u w hk=>by
  rw[←Act.put_comm b v u h2];exact hk
 unfold wpOp at *;simp only[hj]at *;rw[wanted_put oj a oi.dst v h1]at h;by_cases hw:Region.wanted oj (yielded ops a.tmps)=true
 ·rw[if_pos hw]at h ⊢;refine h.imp (fun h=>?_) (fun h=>⟨?_,h.2⟩)
  ·unfold Oper.wp at *;rw[execOp_put oj hsj a oi.dst v h1]at h;generalize (execOp a.eval oj).run P w=r at *;cases r with
   | ok n w'=>
    cases n<;>simp only[Oper.upon]at h ⊢;case value u=>exact ⟨stays a u hy,aA _ _ _ h⟩
    case skip=>exact ⟨stays a _ hy,aA _ _ _ h⟩
    case defer d=>exact ⟨stays _ _ (Z8.alike (a:=a) hy rfl rfl),aA _ _ _ (by rw[←Act.put_defers];exact h)⟩
    case enter f args=>
     refine Calls.mono h fun e w'' he=>?_;cases e with
     | returned u=>exact ⟨stays a u hy,aA _ _ _ he⟩
     | panicked c=>exact hQ _ _ _ _ he
     | outgrown=>exact he
    case row row args=>exact Rows.mono h fun u w'' he=>⟨stays a u hy,aA _ _ _ he⟩
   | halt x w'=>
    cases x<;>simp only[Oper.upon]at h ⊢;case panic u=>exact hQ _ _ _ _ h
  ·unfold Oper.asks at *;rw[execOp_put oj hsj a oi.dst v h1]at h;exact h.1
 ·rw[if_neg hw]at h ⊢;exact ⟨stays a _ hy,aA _ _ _ h⟩
theorem Zr {i:Nat} {oi:Oper} {v:Value} {Q:Exit→Act→World→Prop} (hi:ops[i]?=some oi) (hsel:∀(j:Nat) (o:Oper) cs b,ops[j]?=some o→o.op≠.select cs b) (hQ:∀c a a' w,Q (.panic c) a w→Q (.panic c) a' w) :
 ∀(fuel:Nat) (listed:Array Bool) (a:Act) (w:World),
  (∀j oj,ops[j]?=some oj→j≠i→listed.getD j true=false→(∀e∈oj.after,Region.binds md e=true→e.on≠i)→oi.apart ops oj=true)→
  i∈Region.ready md ops listed→Z8 P ops S oi v a→S w→
  wpAnyH P md ops Q S fuel (listed.setIfInBounds i true) (a.put oi.dst v) w→wpAnyH P md ops Q S (fuel+1) listed a w
 | fuel,listed,a,w,hfree,hr,hy,hS,H=>by
  refine ⟨fun h=>(by rw[h]at hr;cases hr),fun j hj=>?_⟩;by_cases hji:j=i
  ·subst hji;exact hy.op hi hS ⟨hS,H⟩
  ·cases fuel with
   | zero=>have:=ready_mono hj hji;rw[H.1]at this;cases this
   | succ fuel=>
    obtain⟨aA,oj,aB,aC⟩:=mem_ready.1 hj;have aE:=(mem_ready.1 hr).1;have aD:∀e∈oj.after,Region.binds md e=true→e.on≠i:=fun e he hb heq=>by
     have h1:=aC e he hb;rw[heq,getD_both aE]at h1;cases h1
    refine wpOp_mono (fun a' w' h3=>⟨h3.2.1,Zr hi hsel hQ fuel (listed.setIfInBounds j true) a' w' (fun k ok hk hki hkun hno=>?_) (ready_mono hr (Ne.symm hji)) h3.1 h3.2.1 ?_⟩) (Xh aB (hfree j oj aB hji aA aD) (fun cs b=>hsel i oi cs b hi) (fun cs b=>hsel j oj cs b aB) hQ hy (H.2 j (ready_mono hj hji)))
    ·refine hfree k ok hk hki ?_ hno;by_cases hjk:j=k
     ·subst hjk;exact aA
     ·rw[getD_set_ne true hjk]at hkun;exact hkun
    ·rw[Array.setIfInBounds_comm _ _ hji];exact h3.2.2
def Tz (P:Program) (ops:Array Oper) (S:World→Prop) (L:Act→Prop):List Oper→Act→Prop
 | [],a=>L a
 | o::rest,a=>∃v,Z8 P ops S o v a∧Tz P ops S L rest (a.put o.dst v)
def Fb (n:Nat):List Oper→Bool
 | []=>true
 | o::rest=>(match o.dst with | some d=>decide (d<n)&&rest.all (fun p=>p.dst != some d) | none=>false)&&Fb n rest
theorem A1z (a:Act) (d:Option Tmp) (v:Value):(a.put d v).tmps.size=a.tmps.size:=by cases d<;>simp[Act.put]
theorem Qm {C:World→Prop} {d:Tmp} {A:Act}:∀(l:List Oper) (a:Act),l.all (fun p=>p.dst != some d)=true→wpQuiet P ops C (fun a'=>a'=A) l a→A.tmps.getD d undef=a.tmps.getD d undef
 | [],a,_,h=>by rw[show a=A from h]
 | o::l,a,hl,h=>by
  simp only[List.all_cons,Bool.and_eq_true]at hl;have hput:∀v,(a.put o.dst v).tmps.getD d undef=a.tmps.getD d undef:=fun v=>by
   cases ho:o.dst with
   | none=>rfl
   | some e=>
    have aA:e≠d:=by intro h;subst h;simp[ho]at hl
    simp[Act.put,aA]
  unfold wpQuiet at h;split at h
  ·obtain⟨v,_,h⟩:=h;rw[Qm l _ hl.2 h,hput]
  ·rw[Qm l _ hl.2 h,hput]
theorem Ds {A:Act} (W0:World) (h0:S W0):∀(l:List Oper) (a:Act),Fb a.tmps.size l=true→(∀W,S W→wpQuiet P ops (fun w'=>w'=W) (fun a'=>a'=A) l a)→Tz P ops S (fun a'=>a'=A) l a
 | [],a,_,h=>h W0 h0
 | o::l,a,hl,h=>by
  simp only[Fb,Bool.and_eq_true]at hl;obtain⟨ho,hl⟩:=hl;cases hd:o.dst with
  | none=>rw[hd]at ho;cases ho
  | some d=>
   rw[hd]at ho;simp only[Bool.and_eq_true,decide_eq_true_eq]at ho;by_cases hw:Region.wanted o (yielded ops a.tmps)=true
   ·have aA:∀W,S W→o.quietAt P a (fun w'=>w'=W) W (A.tmps.getD d undef)∧wpQuiet P ops (fun w'=>w'=W) (fun a'=>a'=A) l (a.put o.dst (A.tmps.getD d undef)):=fun W hW=>by
     have h1:=h W hW;unfold wpQuiet at h1;rw[if_pos hw]at h1;obtain⟨v,hv,h2⟩:=h1;have e:=Qm l _ ho.2 h2;rw[hd]at e;have e2:(a.put (some d) v).tmps.getD d undef=v:=by simp[Act.put,ho.1]
     rw[e2]at e;rw[e];exact ⟨hv W rfl,h2⟩
    exact ⟨_,.inl ⟨hw,fun W hW=>(aA W hW).1⟩,Ds W0 h0 l _ (by rw[A1z];exact hl) fun W hW=>(aA W hW).2⟩
   ·refine ⟨undef,.inr ⟨by simpa using hw,rfl⟩,Ds W0 h0 l _ (by rw[A1z];exact hl) fun W hW=>?_⟩;have h1:=h W hW;unfold wpQuiet at h1;rw[if_neg hw]at h1;exact h1
theorem Hg {L L':Act→Prop} (hL:∀a,L a→L' a):∀(l:List Oper) (a:Act),Tz P ops S L l a→Tz P ops S L' l a
 | [],a,h=>hL a h
 | _::l,_,⟨v,hy,h⟩=>⟨v,hy,Hg hL l _ h⟩
def Sw (P:Program) (S:World→Prop) (Q:Act→World→Prop):List Oper→Act→World→Prop
 | [],a,w=>Q a w
 | o::rest,a,w=>Oper.wp P o a w (fun a' w'=>S w'∧Sw P S Q rest a' w') (fun _ _ _=>False)
theorem Jg {Q:Act→World→Prop} {a:Act} {w:World} (h:Q a w):Sw P S Q [] a w:=h
theorem Pu {o:Oper} {a:Act} {w:World} {K K':Act→World→Prop} {Q Q':Exit→Act→World→Prop} (hK:∀a w,K a w→K' a w) (hQ:∀e a w,e≠.normal→Q e a w→Q' e a w) (h:o.wp P a w K Q):o.wp P a w K' Q':=by
 unfold Oper.wp at *;generalize (execOp a.eval o).run P w=r at *;cases r with
 | ok n w'=>
  cases n<;>simp only[Oper.upon]at h ⊢;case value=>exact hK _ _ h
  case skip=>exact hK _ _ h
  case defer=>exact hK _ _ h
  case enter f args=>
   refine Calls.mono h fun e w'' he=>?_;cases e with
   | returned v=>exact hK _ _ he
   | panicked c=>exact hQ _ _ _ (by intro h;cases h) he
   | outgrown=>obtain⟨a,w,h⟩:=he;exact ⟨a,w,hQ _ _ _ (by intro h;cases h) h⟩
  case row=>exact Rows.mono h fun _ _ he=>hK _ _ he
 | halt x w'=>
  cases x<;>simp only[Oper.upon]at h ⊢;case panic=>exact hQ _ _ _ (by intro h;cases h) h
theorem M1 {Q:Act→World→Prop} {o:Oper} {rest:List Oper} {a:Act} {w:World} (hg:o.guard=none)
 (h:∀Q':Exit→Act→World→Prop,(∀a' w',S w'→Sw P S Q rest a' w'→Q' .normal a' w')→wpList P #[o] Q' [o] a w):Sw P S Q (o::rest) a w:=by
 have h1:=h (fun e a' w'=>e=.normal∧S w'∧Sw P S Q rest a' w') (fun a' w' h1 h2=>⟨rfl,h1,h2⟩);unfold wpList at h1;rw[if_pos (by simp[Region.wanted,hg])]at h1;rcases h1 with h1 | ⟨_,a,w,h2,_⟩
 ·exact Pu (fun a' w' h2=>h2.2) (fun e a' w' hne h2=>hne h2.1) h1
 ·cases h2
def Cu (md:Region.Mode) (ops:Array Oper):Array Bool→List Nat→Array Bool×Bool
 | listed,[]=>(listed,true)
 | listed,i::is=>((Cu md ops (listed.setIfInBounds i true) is).1,(Region.ready md ops listed).contains i&&Region.free md ops listed i&&(Cu md ops (listed.setIfInBounds i true) is).2)
def A1q (md:Region.Mode) (ops:Array Oper):Array Bool→List Nat→Bool
 | listed,[]=>Region.ready md ops listed==[]
 | listed,i::is=>(Region.ready md ops listed==[i])&&(match ops[i]? with | some o=>o.guard==none | none=>false)&&A1q md ops (listed.setIfInBounds i true) is
def pick (l:List Oper):List Nat→List Oper
 | []=>[]
 | i::is=>match l[i]? with | some o=>o::pick l is | none=>[]
variable {Q : Exit → Act → World → Prop} {l : List Oper}
theorem Vd:∀(ts:List Nat) (lt:List Oper) (listed:Array Bool) (a:Act) (w:World),pick l ts=lt→lt.length=ts.length→A1q md l.toArray listed ts=true→Sw P S (fun a w=>Q .normal a w) lt a w→wpAnyH P md l.toArray Q S ts.length listed a w
 | [],lt,listed,a,w,hp,_,hB,h=>by
  subst hp;exact ⟨by simpa [A1q] using hB,h⟩
 | i::is,lt,listed,a,w,hp,hl,hB,h=>by
  simp only[A1q,Bool.and_eq_true,beq_iff_eq]at hB;obtain⟨⟨hr,hg⟩,hB⟩:=hB;simp only[pick]at hp;cases hi:l[i]? with
  | none=>rw[hi]at hp;subst hp;simp at hl
  | some o=>
   rw[hi]at hp;subst hp;refine ⟨fun h0=>(by rw[hr]at h0;cases h0),fun j hj=>?_⟩;rw[hr]at hj;obtain rfl:j=i:=by simpa using hj
   have aA:l.toArray[j]?=some o:=by simpa using hi
   have aB:o.guard=none:=by rw[aA]at hg;simpa using hg
   unfold wpOp;simp only[aA];rw[if_pos (by simp[Region.wanted,aB])];refine .inl (Pu (fun a' w' h2=>⟨h2.1,Vd is _ _ a' w' rfl (by simpa using hl) hB h2.2⟩) (fun _ _ _ _ h=>h.elim) h)
theorem Kw:∀(qs:List Nat) (lq:List Oper) (fuel:Nat) (listed:Array Bool) (a:Act) (w:World),pick l qs=lq→lq.length=qs.length→Region.noSelect l.toArray=true→(Cu md l.toArray listed qs).2=true→S w→
 (∀c a a' w,Q (.panic c) a w→Q (.panic c) a' w)→
 Tz P l.toArray S (fun a'=>wpAnyH P md l.toArray Q S fuel (Cu md l.toArray listed qs).1 a' w) lq a→wpAnyH P md l.toArray Q S (fuel+qs.length) listed a w
 | [],lq,fuel,listed,a,w,hp,_,_,hB,hS,_,h=>by subst hp;exact h
 | i::is,lq,fuel,listed,a,w,hp,hl,hs,hB,hS,hQ,h=>by
  simp only[Cu,Bool.and_eq_true]at hB;obtain⟨⟨hr,hf⟩,hB⟩:=hB;simp only[pick]at hp;cases hi:l[i]? with
  | none=>rw[hi]at hp;subst hp;simp at hl
  | some o=>
   rw[hi]at hp;subst hp;obtain⟨v,hy,h⟩:=h;have aA:l.toArray[i]?=some o:=by simpa using hi
   exact Zr aA (Region.noSelect_spec hs) hQ _ _ _ _ (Region.free_spec aA hf) (by simpa using hr) hy hS (Kw is _ fuel _ _ w rfl (by simpa using hl) hs hB hS hQ h)
def Ve (Q:Exit→Act→World→Prop):Exit→Act→World→Prop
 | .panic _,_,_=>False
 | e,a,w=>Q e a w
theorem Ui {Q:Exit→Act→World→Prop} (e:Exit) (a:Act) (w:World) (h:Ve Q e a w):Q e a w:=by
 cases e<;>first | exact h | exact h.elim
theorem Oq (S:World→Prop) (qs ts:List Nat) {id:Nat} {a:Act} {w:World} {lq lt:List Oper} (hm:P.follows .mixedOrders=true) (hs:Region.noSelect l.toArray=true)
 (h1:(Cu .any l.toArray (Array.replicate l.length false) qs).2=true) (h2:A1q .any l.toArray (Cu .any l.toArray (Array.replicate l.length false) qs).1 ts=true)
 (hq:pick l qs=lq) (ht:pick l ts=lt) (hn:(lq.length==qs.length&&lt.length==ts.length&&(qs.length+ts.length==l.length))=true) (hd:Fb a.tmps.size lq=true) (hS:S w.drew)
 (A:Act) (h:∀W,S W→wpQuiet P l.toArray (fun w'=>w'=W) (fun a'=>a'=A) lq a) (ht:S w.drew→Sw P S (fun a w=>Q .normal a w) lt A w.drew):(Code.region id l.toArray true).wp P Q a w:=by
 simp only[Bool.and_eq_true,beq_iff_eq]at hn;obtain⟨⟨n1,n2⟩,n3⟩:=hn;refine Code.wp_mono Ui (wp_region_held (S:=S) hm ?_);have e:l.toArray.size=ts.length+qs.length:=by simp;omega
 have e2:Array.replicate l.toArray.size false=Array.replicate l.length false:=by simp
 rw[e2,e];exact Kw qs lq ts.length _ a _ hq n1 hs h1 hS (fun _ _ _ _ h=>h) (Hg (fun a' ha=>by subst ha;exact Vd ts lt _ _ _ (by assumption) n2 h2 (ht hS)) lq a (Ds _ hS lq a hd h))
end
section
variable {P : Program} {l : List Oper} {Q : Exit → Act → World → Prop} {S : World → Prop} {a : Act} {w : World}
def O8 (n:Nat) (done:List Nat):Array Bool:=done.foldl (fun m i=>m.setIfInBounds i true) (Array.replicate n false)
def X9 (P:Program) (l:List Oper) (Q:Exit→Act→World→Prop) (S:World→Prop) (done:List Nat) (a:Act) (w:World):Prop:=
 wpAnyH P .any l.toArray (Ve Q) S (l.length-done.length) (O8 l.length done) a w
theorem F2 (S:World→Prop) {id:Nat} (hm:P.follows .mixedOrders=true) (h:X9 P l Q S [] a w.drew):(Code.region id l.toArray true).wp P Q a w:=by
 refine Code.wp_mono Ui (wp_region_held (S:=S) hm ?_);have e:l.toArray.size=l.length:=by simp
 rw[e];exact h
theorem Km:∀(qs:List Nat) (listed:Array Bool),(Cu .any l.toArray listed qs).1=qs.foldl (fun m i=>m.setIfInBounds i true) listed
 | [],_=>rfl
 | _::qs,_=>by simp only[Cu,List.foldl_cons];exact Km qs _
theorem C6 {done:List Nat} (qs:List Nat) {lq:List Oper} (hs:Region.noSelect l.toArray=true) (h1:(Cu .any l.toArray (O8 l.length done) qs).2=true)
 (hq:pick l qs=lq) (hn:(lq.length==qs.length&&decide (done.length+qs.length≤l.length))=true) (hd:Fb a.tmps.size lq=true) (hS:S w)
 (A:Act) (h:∀W,S W→wpQuiet P l.toArray (fun w'=>w'=W) (fun a'=>a'=A) lq a) (hr:X9 P l Q S (done++qs) A w):X9 P l Q S done a w:=by
 simp only[Bool.and_eq_true,beq_iff_eq,decide_eq_true_eq]at hn;unfold X9 at *;rw[show l.length-done.length=(l.length-(done++qs).length)+qs.length by simp;omega];refine Kw qs lq _ _ a w hq hn.1 hs h1 hS (fun _ _ _ _ h=>h) (Hg (fun a' ha=>?_) lq a (Ds w hS lq a hd h));subst ha;rw[Km];unfold O8 at hr ⊢;rw[List.foldl_append]at hr;exact hr
def Eh (l:List Oper) (done rs:List Nat):Bool:=Region.ready .any l.toArray (O8 l.length done)==rs&&decide (done.length<l.length)
def E4 (o:Oper):Oper:={ o with guard:=none }
theorem B8j {o:Oper} {K:Act→World→Prop} {Q:Exit→Act→World→Prop} (h:(E4 o).wp P a w K Q):o.wp P a w K Q:=h
theorem A6z {done:List Nat} {i:Nat} {o:Oper} (hi:l[i]?=some o) (hg:Region.wanted o (yielded l.toArray a.tmps)=true)
 (h:∀Q':Exit→Act→World→Prop,(∀a' w',S w'→X9 P l Q S (done++[i]) a' w'→Q' .normal a' w')→wpList P #[E4 o] Q' [E4 o] a w) (hlt:done.length<l.length) :
 wpOp P l.toArray (Ve Q) i (fun a' w'=>S w'∧wpAnyH P .any l.toArray (Ve Q) S (l.length-done.length-1) ((O8 l.length done).setIfInBounds i true) a' w') a w:=by
 have h1:=h (fun e a' w'=>e=.normal∧S w'∧X9 P l Q S (done++[i]) a' w') (fun a' w' h1 h2=>⟨rfl,h1,h2⟩);unfold wpList at h1;rw[if_pos (by simp[Region.wanted,E4])]at h1;unfold wpOp;have aA:l.toArray[i]?=some o:=by simpa using hi
 simp only[aA];rw[if_pos hg];rcases h1 with h1 | ⟨_,a,w,h2,_⟩
 ·refine .inl (Pu (fun a' w' h2=>⟨h2.2.1,?_⟩) (fun e a' w' hne h2=>(hne h2.1).elim) (B8j h1));have h3:=h2.2.2;unfold X9 O8 at h3;rw[List.foldl_append]at h3;rw[show l.length-done.length-1=l.length-(done++[i]).length by simp;omega];exact h3
 ·cases h2
theorem Mt {done rs:List Nat} (hr:Eh l done rs=true) (hne:rs≠[])
 (h:∀i∈rs,wpOp P l.toArray (Ve Q) i (fun a' w'=>S w'∧wpAnyH P .any l.toArray (Ve Q) S (l.length-done.length-1) ((O8 l.length done).setIfInBounds i true) a' w') a w):X9 P l Q S done a w:=by
 simp only[Eh,Bool.and_eq_true,beq_iff_eq,decide_eq_true_eq]at hr;unfold X9;rw[show l.length-done.length=(l.length-done.length-1)+1 by omega];exact wpAnyH_all hr.1 hne h
theorem C4 {done:List Nat} (i:Nat) {o:Oper} (hr:Eh l done [i]=true) (hi:l[i]?=some o) (hg:Region.wanted o (yielded l.toArray a.tmps)=true)
 (h:∀Q':Exit→Act→World→Prop,(∀a' w',S w'→X9 P l Q S (done++[i]) a' w'→Q' .normal a' w')→wpList P #[E4 o] Q' [E4 o] a w):X9 P l Q S done a w:=by
 have aA:done.length<l.length:=by simp only[Eh,Bool.and_eq_true,decide_eq_true_eq]at hr;exact hr.2
 refine Mt hr (by simp) fun j hj=>?_;obtain rfl:j=i:=by simpa using hj
 exact A6z hi hg h aA
theorem I9 {done:List Nat} (hr:(Region.ready .any l.toArray (O8 l.length done)==[])=true) (h:Q .normal a w):X9 P l Q S done a w:=by
 unfold X9;exact wpAnyH_done (Q:=Ve Q) (by simpa using hr) h _
end
section
variable {P : Program} {l : List Oper} {Q : Exit → Act → World → Prop} {S : World → Prop}
theorem A3o:∀(L:List Bool) (i:Nat),L[i]?=some false→L.count false=(L.set i true).count false+1
 | [],i,h=>by simp at h
 | b::L,0,h=>by simp at h;subst h;simp
 | b::L,i+1,h=>by
  have:=A3o L i (by simpa using h);simp only[List.set_cons_succ,List.count_cons,this];omega
def inOrder (l:List Oper):Bool:=l.zipIdx.all fun (o,i)=>o.after.all fun e=>!Region.binds .any e||decide (e.on<i)
theorem Ea {i:Nat} {o:Oper} (h:inOrder l=true) (hi:l[i]?=some o):∀e∈o.after,Region.binds .any e=true→e.on<i:=by
 intro e he hb;have h1:=List.all_eq_true.1 h (o,i) (by rw[List.mem_zipIdx_iff_getElem?];exact hi);have h2:=Array.all_eq_true_iff_forall_mem.1 h1 e he;simpa [hb] using h2
theorem Ni {listed:Array Bool} (ho:inOrder l=true) (hs:listed.size=l.length) (hr:Region.ready .any l.toArray listed=[]):∀i,i<l.length→listed.getD i false=true:=by
 intro i;induction i using Nat.strongRecOn with
 | _ i ih=>
  intro hi;apply Classical.byContradiction;intro hn;have aA:i∈Region.ready .any l.toArray listed:=by
   refine mem_ready.2 ⟨?_,l[i],by simp[hi],fun e he hb=>?_⟩
   ·have:i<listed.size:=by omega
    simpa [this] using hn
   ·exact ih e.on (Ea ho (by simp[hi]) e he hb) (by have:=Ea ho (i:=i) (o:=l[i]) (by simp[hi]) e he hb;omega)
  rw[hr]at aA;cases aA
theorem A8p (Inv:Array Bool→Act→World→Prop) (ho:inOrder l=true) (hS:∀listed a w,Inv listed a w→S w)
 (hstep:∀(listed:Array Bool) (a:Act) (w:World) (i:Nat) (o:Oper),Inv listed a w→listed.size=l.length→l[i]?=some o→listed.getD i true=false→(∀e∈o.after,Region.binds .any e=true→listed.getD e.on false=true)→
  ∀K:Act→World→Prop,(∀a' w',Inv (listed.setIfInBounds i true) a' w'→K a' w')→wpOp P l.toArray (Ve Q) i K a w)
 (hend:∀(listed:Array Bool) (a:Act) (w:World),Inv listed a w→(∀i,i<l.length→listed.getD i false=true)→Q .normal a w) :
 ∀(fuel:Nat) (listed:Array Bool) (a:Act) (w:World),listed.size=l.length→listed.toList.count false=fuel→Inv listed a w→wpAnyH P .any l.toArray (Ve Q) S fuel listed a w
 | 0,listed,a,w,hs,hc,hI=>by
  have hall:∀i,i<l.length→listed.getD i false=true:=by
   intro i hi;have aA:i<listed.size:=by omega
   cases hb:listed[i] with
   | true=>simp[aA,hb]
   | false=>
    have:false∈listed.toList:=by
     have:=Array.getElem_mem (xs:=listed) aA;rw[hb]at this;simpa using this
    have:=List.count_pos_iff.2 this;omega
  refine ⟨?_,hend listed a w hI hall⟩;apply List.eq_nil_iff_forall_not_mem.2;intro i hi;obtain⟨h1,o,h2,_⟩:=mem_ready.1 hi;have aA:i<l.length:=by
   have:=(Array.getElem?_eq_some_iff.1 h2).1;simpa using this
  have h3:=hall i aA;have:i<listed.size:=by omega
  simp[this]at h1 h3;rw[h1]at h3;cases h3
 | fuel+1,listed,a,w,hs,hc,hI=>by
  refine ⟨fun hr=>hend listed a w hI (Ni ho hs hr),fun i hi=>?_⟩;obtain⟨h1,o,h2,h3⟩:=mem_ready.1 hi;have aB:l[i]?=some o:=by simpa using h2
  refine hstep listed a w i o hI hs aB h1 h3 _ fun a' w' hI'=>⟨hS _ _ _ hI',A8p Inv ho hS hstep hend fuel _ a' w' (by simpa using hs) ?_ hI'⟩;have aA:i<listed.size:=by
   have:=(Array.getElem?_eq_some_iff.1 h2).1;simp at this;omega
  have h4:listed.toList[i]?=some false:=by
   have:listed[i]=false:=by simpa [aA] using h1
   simp[aA,this]
  have:=A3o listed.toList i h4;simp only[Array.toList_setIfInBounds];omega
theorem A8u {done:List Nat} {a:Act} {w:World} (Inv:Array Bool→Act→World→Prop) (ho:inOrder l=true) (hS:∀listed a w,Inv listed a w→S w)
 (hstep:∀(listed:Array Bool) (a:Act) (w:World) (i:Nat) (o:Oper),Inv listed a w→listed.size=l.length→l[i]?=some o→listed.getD i true=false→(∀e∈o.after,Region.binds .any e=true→listed.getD e.on false=true)→
  ∀K:Act→World→Prop,(∀a' w',Inv (listed.setIfInBounds i true) a' w'→K a' w')→wpOp P l.toArray (Ve Q) i K a w)
 (hend:∀(listed:Array Bool) (a:Act) (w:World),Inv listed a w→(∀i,i<l.length→listed.getD i false=true)→Q .normal a w)
 (hc:((O8 l.length done).toList.count false==l.length-done.length&&(O8 l.length done).size==l.length)=true) (hI:Inv (O8 l.length done) a w):X9 P l Q S done a w:=by
 simp only[Bool.and_eq_true,beq_iff_eq]at hc;exact A8p Inv ho hS hstep hend _ _ a w hc.2 hc.1 hI
theorem Wz {i:Nat} {o:Oper} {a:Act} {w:World} {K:Act→World→Prop} (hi:l[i]?=some o) (hg:o.guard=none)
 (h:∀Q':Exit→Act→World→Prop,(∀a' w',K a' w'→Q' .normal a' w')→wpList P #[o] Q' [o] a w):wpOp P l.toArray (Ve Q) i K a w:=by
 have h1:=h (fun e a' w'=>e=.normal∧K a' w') (fun a' w' h1=>⟨rfl,h1⟩);unfold wpList at h1;rw[if_pos (by simp[Region.wanted,hg])]at h1;unfold wpOp;have aA:l.toArray[i]?=some o:=by simpa using hi
 simp only[aA];rw[if_pos (by simp[Region.wanted,hg])];rcases h1 with h1 | ⟨_,a,w,h2,_⟩
 ·exact .inl (Pu (fun a' w' h2=>h2.2) (fun e a' w' hne h2=>(hne h2.1).elim) h1)
 ·cases h2
end
section
def A5s (tmps:Array Value):ResultVar→Sem Value
 | .tmp t=>pure (tmps.getD t undef)
 | .cell a t=>do loadVar t (←asAddr (tmps.getD a undef))
def M5 (P:Program) (tmps:Array Value) (w:World) (r:ResultVar) (v:Value):Prop:=(A5s tmps r).run P w=.ok v w
theorem Xt (fn:Func) (tmps:Array Value):results fn tmps=(do let vs ←fn.results.mapM (A5s tmps);pure (if h:vs.size=1 then vs[0] else .tuple vs)):=by
 have e:A5s tmps=(fun
  | .tmp t=>pure (tmps.getD t undef)
  | .cell a t=>do loadVar t (←asAddr (tmps.getD a undef))):=by funext r;cases r<;>rfl
 rw[e];rfl
section
variable {P : Program} {fn : Func} {tmps : Array Value} {w : World}
theorem M5.row {p:Tmp} {ty:TypeId} {g:Nat} {t:TypeId} {cs:List Value} (hg:Bk w g t cs) (hp:tmps.getD p undef=.pointer (some ⟨g,0,none⟩)) (d:TypeDesc)
 (hu:P.underlying ty=some d) (hd:(match d with | .struct _ | .array _ _=>true | _=>false)=true) (hi:(P.info? ty).map (·.size)=some cs.length):M5 P tmps w (.cell p ty) (.agg cs.toArray):=by
 unfold M5 A5s;simp only[hp];simp[asAddr,run_loadVar_row w g t ty cs.toArray (0,0) d hg hu hd (by simpa using hi)]
theorem M5.tmp {t:Tmp} {v:Value} (h:tmps.getD t undef=v):M5 P tmps w (.tmp t) v:=by subst h;rfl
theorem P9 {r1 r2:ResultVar} {v1 v2:Value} (h:fn.results=#[r1,r2]) (h1:M5 P tmps w r1 v1) (h2:M5 P tmps w r2 v2):(results fn tmps).run P w=.ok (.tuple #[v1,v2]) w:=by
 unfold M5 at h1 h2;rw[Xt,h];simp[h1,h2]
theorem Bv {r1 r2 r3:ResultVar} {v1 v2 v3:Value} (h:fn.results=#[r1,r2,r3]) (h1:M5 P tmps w r1 v1) (h2:M5 P tmps w r2 v2) (h3:M5 P tmps w r3 v3):(results fn tmps).run P w=.ok (.tuple #[v1,v2,v3]) w:=by
 unfold M5 at h1 h2 h3;rw[Xt,h];simp[h1,h2,h3]
end
end
def F1m (x y:Int):Int:=if y<x then y else x
@[go_sem ↓ high] theorem E7g {P : Program} {w : World} (ts : Array TypeId) (t : TypeId) (k k' : IntKind) (x y : Int) : (Builtin.min_ ts t #[.int k x, .int k' y]).run P w = .ok (.int k (F1m x y)) w := run_min_int2 (P := P) w ts t k k' x y
section
structure More where
 objs:Array Obj
 at_:Nat
instance : Inhabited More := ⟨⟨#[], 0⟩⟩
def ext (w:World) (p:More):World:={ w with heap:=w.heap++p.objs,drawn:=p.at_ }
theorem Li (w:World) (p:More):Below w.heap.size w (ext w p):=
 ⟨rfl,rfl,rfl,by simp[ext],fun k hk=>by simp[ext,Array.getElem?_append,hk]⟩
section
variable {w : World} {p : More} {a : Addr} {n : Nat}
@[go_sem] theorem D9k (k : Nat) : ext (w.drewN k) p = ext w p := rfl
@[go_sem] theorem E3a : ext w.drew p = ext w p := rfl
@[go_sem] theorem E0u (h : a.block < w.heap.size) : (ext w p).cell? a = w.cell? a := (Li w p).cell h
@[go_sem] theorem D5r (h : a.block < w.heap.size) : (ext w p).frozen? a = w.frozen? a := (Li w p).frozen h
@[go_sem] theorem E8u (h : a.block < w.heap.size) : E5 (ext w p) a n = E5 w a n := Bw (Li w p) h
@[go_sem] theorem E9c (h : a.block < w.heap.size) : E8 (ext w p) a n = E8 w a n :=
 A0r (fun q hq=>(Li w p).cell (by omega)) (fun q hq=>(Li w p).frozen (by omega))
end
section
variable {P : Program} {f : FuncId} {args : Array Value} {w : World} {p : More} {v : Value}
end
end
section
def S8 (l:List UInt8):Value:=.string ⟨l.toArray⟩
theorem Tg {w:World} {a:Addr} {n:Nat} {cs:List Value} (h:E5 w a n=some cs):cs.length=n∧∀j (u:Value),cs[j]?=some u→w.cell? (a.add j)=some u:=(Tj (fun j=>w.cell? (a.add j)) n cs).1 h
open Classical in
noncomputable def Jy (cs:List Value):Option (List UInt8):=if h:∃l,cs=c8 l then some h.choose else none
@[go_sem] theorem B0i (l : List UInt8) : Jy (c8 l) = some l := by
 have h:∃m,c8 l=c8 m:=⟨l,rfl⟩;unfold Jy;rw[dif_pos h];exact congrArg some ((List.map_inj_right fun _ _=>B7c).1 h.choose_spec).symm
theorem B1d {cs:List Value} {l:List UInt8} (h:Jy cs=some l):cs=c8 l:=by
 unfold Jy at h;split at h
 ·rename_i hh
  injection h with h;rw[←h];exact hh.choose_spec
 ·cases h
noncomputable def B0f (w:World) (raw:Result Next):Value→Result Next
 | .slice (some a) n _=>match (E5 w a n).bind Jy with
  | some l=>.ok (.value (S8 l)) w
  | none=>raw
 | .slice none n _=>if n=0 then .ok (.value (S8 [])) w else raw
 | _=>raw
@[go_sem] theorem D7b (w : World) (raw : Result Next) (c : Nat) : B0f w raw (.slice none 0 c) = .ok (.value (S8 [])) w := rfl
@[go_sem] theorem E7j (w : World) (raw : Result Next) (a : Addr) (n c : Nat) : B0f w raw (.slice (some a) n c) = match (E5 w a n).bind Jy with
 | some l=>.ok (.value (S8 l)) w
 | none=>raw:=rfl
@[go_sem] theorem E9a (l : List UInt8) : (some (c8 l)).bind Jy = some l := B0i l
theorem B6c (l:List UInt8):∀(b:ByteArray),(l.map (fun x=>n8 x)).foldl (fun r n=>r.push (UInt8.ofNat n.toNat)) b=⟨b.data++l.toArray⟩:=by
 induction l with
 | nil=>intro b;simp
 | cons x l ih=>
  intro b;rw[List.map_cons,List.foldl_cons,ih];have e:UInt8.ofNat (n8 x).toNat=x:=by unfold n8;simp
  rw[e];congr 1;apply Array.ext';simp[ByteArray.push]
theorem C6v {P:Program} (w:World) (ρ:Operand→Value) (dst:Option Tmp) (ty:TypeId) (pos:String) (after:Array Edge) (guard:Option (Nat×Bool)) (s t e:TypeId) (x:Operand)
 (hs:P.underlying s=some (.slice e)) (he:P.underlying e=some (.int .u8)) (hd:P.underlying t=some .string) :
 (execOp ρ { dst,op:=.convert s t x,type:=ty,pos,after,guard }).run P w=B0f w (M6 P ρ { dst,op:=.convert s t x,type:=ty,pos,after,guard } w) (ρ x):=by
 generalize hv:ρ x=v;unfold B0f;split
 ·rename_i a n c
  split
  ·rename_i l hl
   rw[Option.bind_eq_some_iff]at hl;obtain⟨cs,h1,h2⟩:=hl;have h3:=B1d h2;subst h3;obtain⟨aA,hc⟩:=Tg h1;have h4:(loadCells a n).run P w=.ok ((l.map (fun x=>n8 x)).map (Value.int .u8)).toArray w:=by
    have:=run_loadCells_list (P:=P) (w:=w) a (c8 l) hc;rw[aA]at this;rw[this];simp[c8,v8]
   have h5:=run_bytesToString (P:=P) w a n c (l.map fun x=>n8 x) h4;rw[B6c]at h5;have h6:=run_convert_bytes_string (P:=P) w s t e (some a) n c hs he hd;unfold execOp;simp only[Sem.run_bind,hv];rw[h6,h5];simp only[Result.andThen_ok];show Result.ok (Next.value (Value.string _)) w=_;simp[S8]
  ·rfl
 ·rename_i n c
  split
  ·rename_i h0
   subst h0;have h6:=run_convert_bytes_string (P:=P) w s t e none 0 c hs he hd;unfold execOp;simp only[Sem.run_bind,hv];rw[h6];rfl
  ·rfl
 ·rfl
def D2p (neg:Bool) (w:World) (raw:Result Next):Value→Value→Result Next
 | .string s,.string t=>.ok (.value (.bool (neg != (s.data.toList==t.data.toList)))) w
 | _,_=>raw
@[go_sem] theorem E8l (neg : Bool) (w : World) (raw : Result Next) (l m : List UInt8) : D2p neg w raw (S8 l) (S8 m) = .ok (.value (.bool (neg != (l == m)))) w := rfl
@[go_sem] theorem E2p (neg : Bool) (w : World) (raw : Result Next) (s t : ByteArray) : D2p neg w raw (.string s) (.string t) = .ok (.value (.bool (neg != (s.data.toList == t.data.toList)))) w := rfl
theorem By.takes {w:World} {lo B:Nat} {A:Option Addr} {n c:Nat} {l:List UInt8} (h:By w lo B (.slice A n c) l) {k:Nat} (hk:k≤n):By w lo B (.slice A k c) (l.take k):=by
 obtain⟨A2,c2,e,h2,h3,h4⟩:=h.open_;injection e with e1 e2 e3;subst e1;subst e3;subst e2;have hl:(l.take k).length=k:=by rw[List.length_take];omega
 have:=By.mk_ (w:=w) (lo:=lo) (B:=B) (A:=A) (c:=c) (l:=l.take k) (by omega) (by unfold maxLen;exact h3) (by rw[List.map_take];exact h4.take k);rwa [hl]at this
theorem By.drops {w:World} {lo B:Nat} {A:Option Addr} {n c:Nat} {l:List UInt8} (h:By w lo B (.slice A n c) l) {k:Nat} (hk:k≤n):By w lo B (.slice (if c=k then A else A.map (·.add k)) (n-k) (c-k)) (l.drop k):=by
 obtain⟨A2,c2,e,h2,h3,h4⟩:=h.open_;injection e with e1 e2 e3;subst e1;subst e3;subst e2;have hl:(l.drop k).length=l.length-k:=by rw[List.length_drop]
 have:=By.mk_ (w:=w) (lo:=lo) (B:=B) (A:=if c=k then A else A.map (·.add k)) (c:=c-k) (l:=l.drop k) (by omega) (by unfold maxLen;omega) (by rw[List.map_drop];exact h4.cut (by simpa using h2));rwa [hl]at this
theorem L6.two (w:World) (t:TypeId) (x y:Value) (l m:List UInt8) (hx:By w 0 w.heap.size x l) (hy:By w 0 w.heap.size y m):L6 (w.alloc (.cells #[x,y] t)) (w.heap.size+1) (.slice (some ⟨w.heap.size,0,none⟩) 2 2) [l,m]:=
 L6.build w t [x,y] [l,m] rfl (by simp) fun i u k hu hk=>by
  match i,hu,hk with
  | 0,hu,hk=>simp at hu hk;subst hu;subst hk;exact hx
  | 1,hu,hk=>simp at hu hk;subst hu;subst hk;exact hy
  | i+2,hu,hk=>simp at hu
theorem By.row {w:World} {lo B:Nat} {v:Value} {l:List UInt8} (h:By w lo B v l) (hl:0<l.length):∃g o c,v=.slice (some ⟨g,o,none⟩) l.length c∧l.length≤c∧c≤9223372036854775807∧lo≤g∧g<B∧E5 w ⟨g,o,none⟩ l.length=some (c8 l):=by
 obtain⟨A,c,rfl,h2,h3,h4⟩:=h.open_;obtain⟨g,o,rfl,hg,hB,hc⟩:=h4.some (by simpa using hl);exact ⟨g,o,c,rfl,h2,h3,hg,hB,Eo.2 ⟨by simp,hc⟩⟩
section
variable (w : World) (ρ : Operand → Value) (dst : Option Tmp) (ty : TypeId) (pos : String) (after : Array Edge) (guard : Option (Nat × Bool))
@[go_sem ↓ high] theorem D9o (x : Operand) :
 (execOp ρ { dst,op:=.convert 45 9 x,type:=ty,pos,after,guard }).run Tryz.prog w=B0f w (M6 Tryz.prog ρ { dst,op:=.convert 45 9 x,type:=ty,pos,after,guard } w) (ρ x):=
 C6v w ρ dst ty pos after guard 45 9 5 x Tryz.underlying45 Tryz.underlying5 Tryz.underlying9
theorem B0j (s:ByteArray):s.toList=s.data.toList:=by
 have:=ByteArray.toList_loop_eq s _ 0 [] rfl (Nat.zero_le _);simpa [ByteArray.toList] using this
@[go_sem ↓ high] theorem E9k (x y : Operand) (yt : TypeId) :
 (execOp ρ { dst,op:=.binOp .eql 9 x y yt,type:=ty,pos,after,guard }).run Tryz.prog w=D2p false w (M6 Tryz.prog ρ { dst,op:=.binOp .eql 9 x y yt,type:=ty,pos,after,guard } w) (ρ x) (ρ y):=by
 generalize hx:ρ x=a;generalize hy:ρ y=b;unfold D2p;split
 ·rename_i s t
  simp only[execOp,hx,hy,eqGuard_at_string,binOp_string_eql,B0j];simp
 ·rfl
end
end
section
section
variable {P : Program} {l : List Oper} {Q : Exit → Act → World → Prop} {S : World → Prop} {a : Act} {w : World}
theorem HO' {done : List Nat} (i : Nat) {o : Oper} (h : ∀ Q' : Exit → Act → World → Prop, (∀ a' w', S w' → X9 P l Q S (done ++ [i]) a' w' → Q' .normal a' w') → wpList P #[E4 o] Q' [E4 o] a w)
    (hr : Eh l done [i] = true := by kernel_rfl) (hi : l[i]? = some o := by rfl) (hg : Region.wanted o (yielded l.toArray a.tmps) = true := by rfl) : X9 P l Q S done a w := C4 i hr hi hg h
theorem HE' {done : List Nat} (h : Q .normal a w) (hr : (Region.ready .any l.toArray (O8 l.length done) == []) = true := by kernel_rfl) : X9 P l Q S done a w := I9 hr h
theorem HQ' {done : List Nat} (qs : List Nat) {lq : List Oper} (hS : S w)
    (A : Act) (h : ∀ W, S W → wpQuiet P l.toArray (fun w' => w' = W) (fun a' => a' = A) lq a) (hr : X9 P l Q S (done ++ qs) A w)
    (hs : Region.noSelect l.toArray = true := by kernel_rfl) (h1 : (Cu .any l.toArray (O8 l.length done) qs).2 = true := by kernel_rfl)
    (hq : pick l qs = lq := by rfl) (hn : (lq.length == qs.length && decide (done.length + qs.length ≤ l.length)) = true := by kernel_rfl) (hd : Fb a.tmps.size lq = true := by kernel_rfl) : X9 P l Q S done a w := C6 qs hs h1 hq hn hd hS A h hr
theorem HB' (S : World → Prop) {id : Nat} (h : X9 P l Q S [] a w.drew) (hm : P.follows .mixedOrders = true := by kernel_rfl) : (Code.region id l.toArray true).wp P Q a w := F2 S hm h
end
theorem QE' {P : Prop} (h : P := by
  simp only [pick, List.getElem?_cons_zero, List.getElem?_cons_succ]
  repeat (go_big_quiet_step (fail))
  refine wpQuiet_nil ?_
  rfl) : P := h
end
end Go.Proofs.YtlegpkdighoflaaGreat
