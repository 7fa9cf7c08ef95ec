/- A part of the proof of DirAnswers. -/
import Derived.Deep.Draws
import Derived.WalkKit
import Derived.WalkLawsBesides
import Derived.KernelRfl
import Derived.StillTailTactics
import Derived.BigQuiet
import Derived.Test.YtlegpkdighoflaaGreatPaa
set_option linter.unusedVariables false
set_option linter.unusedSimpArgs false
set_option maxRecDepth 100000
set_option maxHeartbeats 40000000
namespace Go.Proofs.YtlegpkdighoflaaGreat
open Go Go.RowKit Sh
section
section
variable {w v V : World} {B g p o n m : Nat} {ob : Obj} {T : TypeId} {ds vs : List Value} {u : Value}
theorem BA' (h : V = w.alloc ob) : Below w.heap.size w V := h ▸ (Below.refl _ _).alloc (Nat.le_refl _) _
theorem Aw (w : World) (ob : Obj) : Below w.heap.size w (w.alloc ob) := (Below.refl _ _).alloc (Nat.le_refl _) _
theorem BB' (h : V = w.alloc ob) (b : Below B v w) (hB : B ≤ w.heap.size := by assumption) : Below B v V := h ▸ b.alloc hB _
theorem Lk (h : V = w.alloc ob) (b : Below v.heap.size v w) : Below v.heap.size v V := h ▸ b.alloc b.size _
theorem Bi (h : V = D8 w ⟨p, o, none⟩ vs) (b : Below B v w) (l : B ≤ p) : Below B v V := h ▸ C5 b l _
theorem BS' (h : V = w.setCell ⟨p, o, none⟩ u) (b : Below B v w) (l : B ≤ p) : Below B v V := h ▸ b.setCell l _
theorem Fx (w : World) : Below w.heap.size w w.drew := (Below.refl _ _).drew
theorem K9 (b : Below v.heap.size v w) (c : Below w.heap.size w V) : Below v.heap.size v V := b.trans (c.mono b.size)
theorem J3 (h : V = D8 w ⟨p, o, none⟩ vs) (k : Bk w g T ds) (e : g ≠ p) : Bk V g T ds := h ▸ k.putFar e _
theorem KS' (h : V = w.setCell ⟨p, o, none⟩ u) (k : Bk w g T ds) (e : g ≠ p) : Bk V g T ds := h ▸ k.far e _
theorem Ac (h : V = w.alloc ob) (k : Bk w g T ds) : Bk V g T ds := h ▸ k.alloc _
theorem KN' (h : V = w.alloc (.cells ds.toArray T)) : Bk V w.heap.size T ds := h ▸ Bk.new _ _ _
theorem Bk.bl (k : Bk w g T ds) (h : Below w.heap.size w V) : Bk V g T ds := k.below h k.lt
theorem X3 (k : Bk w g T ds) (h : w.drew.heap.size ≤ n) : g < n := Nat.lt_of_lt_of_le k.drew.lt h
theorem Aj (s : w.heap.size = n) (k : Bk w g T ds) : g < n := s ▸ k.lt
theorem Il (h : V = D8 w ⟨p, o, none⟩ vs) (z : n ≤ w.heap.size) : n ≤ V.heap.size := by rw [h]; simpa using z
theorem ZS' (h : V = w.setCell ⟨p, o, none⟩ u) (z : n ≤ w.heap.size) : n ≤ V.heap.size := by rw [h]; simp [World.setCell]; exact z
theorem ZA' (h : V = w.alloc ob) (z : n ≤ w.heap.size) : n ≤ V.heap.size := by rw [h]; simp; omega
theorem P8' {l m : List UInt8} (n : Nat) (h : V = D8 w ⟨g, 0, none⟩ (c8 m)) (k : Bk w g T (c8 l)) (e : l.length = n) (e2 : m.length = n) : Bk V g T (c8 m) := h ▸ k.puts (by simp [c8, e, e2])
theorem C8' {l : List UInt8} (n : Nat) (k : Bk w g T (c8 l)) (e : l.length = n) : T5 w ⟨g, 0, none⟩ n = true := k.can (by simp [c8, e])
theorem Gy (n : Nat) (k : Bk w g T ds) (e : 0 + n ≤ ds.length) : T5 w ⟨g, 0, none⟩ n = true := k.can e
end
theorem P5 {α : Type} {p : α → Prop} {a : α} {l : List α} (h : p a ∧ ∀ x, x ∈ l → p x) : ∀ x, x ∈ a :: l → p x := List.forall_mem_cons.2 h
theorem Kh {α : Type} {p : α → Prop} : ∀ x, x ∈ ([] : List α) → p x := fun _ h => by cases h
theorem O8 {α : Type} {a : α} {l : List α} (i : Nat) (h : l[i]? = some a) : a ∈ l := List.mem_of_getElem? h
theorem F9 {α : Type} (a : α) : ∃ x, x = a := ⟨a, rfl⟩
theorem Ch {α : Type} : (∀ (a : α) (s : List α) (n : Nat) (b : α), (a :: s).set (n + 1) b = a :: s.set n b) ∧ ∀ (a : α) (s : List α) (b : α), (a :: s).set 0 b = b :: s := ⟨fun _ _ _ _ => rfl, fun _ _ _ => rfl⟩
theorem Ul {α : Type} : (∀ (a : α) (s : List α), (a :: s)[0]? = some a) ∧ ∀ (a : α) (s : List α) (n : Nat), (a :: s)[n + 1]? = s[n]? := ⟨fun _ _ => rfl, fun _ _ _ => rfl⟩
theorem AC' {α : Type} : (∀ s : List α, [] ++ s = s) ∧ ∀ (a : α) (s b : List α), a :: s ++ b = a :: (s ++ b) := ⟨fun _ => rfl, fun _ _ _ => rfl⟩
end
theorem B6i (k:Int) (h : -64<k∧k<0):IntKind.u64.wrap k=(((18446744073709551616+k).toNat:Nat):Int):=by
 simp only[IntKind.wrap,IntKind.bits,IntKind.signed];simp;omega
theorem E7u (k:Int) (h : -32<k∧k<0):bits .and .u64 (IntKind.u64.wrap k) 31=(((32+k).toNat:Nat):Int):=by
 rw[B6i k (by omega)];have:=u64_and_nat (18446744073709551616+k).toNat 31 (by omega) (by omega);rw[nat_mask5]at this;exact this.trans (by omega)
theorem E7p (k:Int) (h : -64<k∧k<0):bits .and .u64 (IntKind.u64.wrap k) 63=(((64+k).toNat:Nat):Int):=by
 rw[B6i k (by omega)];have:=u64_and_nat (18446744073709551616+k).toNat 63 (by omega) (by omega);rw[nat_mask6]at this;exact this.trans (by omega)
theorem C6w (x:UInt32) (k:Int) (s t:Nat) (hs:s<32) (ht:t<32)
 (h1:bits .and .u64 (IntKind.u64.wrap k) 31=(s:Int)) (h2:IntKind.u64.wrap (32-(s:Int))=(t:Int)) (w:World) :
 Calls Tryz.prog 80 #[.int .u32 (Ej x),.int .i64 k] w fun e w'=>e=.returned (.int .u32 (Ej (x <<< UInt32.ofNat s ||| x >>> UInt32.ofNat t)))∧w'=w:=by
 go_enter Tryz.func80,Tryz.ntmps80;go_wp2;go_ret;exact ⟨rfl,rfl⟩
theorem C6x (x:UInt64) (k:Int) (s t:Nat) (hs:s<64) (ht:t<64)
 (h1:bits .and .u64 (IntKind.u64.wrap k) 63=(s:Int)) (h2:IntKind.u64.wrap (64-(s:Int))=(t:Int)) (w:World) :
 Calls Tryz.prog 123 #[.int .u64 (J4 x),.int .i64 k] w fun e w'=>e=.returned (.int .u64 (J4 (x <<< UInt64.ofNat s ||| x >>> UInt64.ofNat t)))∧w'=w:=by
 go_enter Tryz.func123,Tryz.ntmps123;go_wp2;go_ret;exact ⟨rfl,rfl⟩
theorem A4t (x:UInt32) (k:Int) (h : -32<k∧k<0) (w:World) :
 Calls Tryz.prog 80 #[.int .u32 (Ej x),.int .i64 k] w fun e w'=>e=.returned (.int .u32 (Ej (Fl x k)))∧w'=w:=
 C6w x k _ _ (by omega) (by omega) (E7u k h) ((IntWalk.u64_in _ (by omega)).trans (by omega)) w
theorem A4x (x:UInt64) (k:Int) (h : -64<k∧k<0) (w:World) :
 Calls Tryz.prog 123 #[.int .u64 (J4 x),.int .i64 k] w fun e w'=>e=.returned (.int .u64 (J4 (Mg x k)))∧w'=w:=
 C6x x k _ _ (by omega) (by omega) (E7p k h) ((IntWalk.u64_in _ (by omega)).trans (by omega)) w
theorem Cx {P:Program} {f:FuncId} {args:Array Value} {w:World} {m:Nat} {v:Value} (h:∀W:World,Calls P f args W fun e w'=>e=.returned v∧w'=W) :
 Calls P f args (w.drewN m) fun e w''=>e=.returned v∧∃m,w''=w.drewN m:=
 (h _).mono fun _ _ ⟨he,hm⟩=>⟨he,m,hm⟩
theorem Bx {P:Program} {f:FuncId} {args:Array Value} {w:World} {m n:Nat} {v:Value} (h:∀W:World,Calls P f args W fun e w'=>e=.returned v∧w'=W) :
 Calls P f args (w.drewN (m+n)) fun e w''=>e=.returned v∧∃k,w''=w.drewN (m+k):=
 (h _).mono fun _ _ ⟨he,hm⟩=>⟨he,n,hm⟩
section
variable {P : Program} {ops : Array Oper} {md : Region.Mode} {C : World → Prop}
def Ur (P:Program) (md:Region.Mode) (ops:Array Oper) (C:World→Prop) (n:Nat) (L:Array Bool→Act→Prop):Nat→Array Bool→Act→Prop
 | 0,listed,a=>L listed a
 | f+1,listed,a=>
  Region.ready md ops listed≠[]∧∀i∈Region.ready md ops listed,i<n∧qOp P ops C i (Ur P md ops C n L f (listed.setIfInBounds i true)) a
theorem Rh {n g:Nat} {L:Array Bool→Act→Prop} {Q':Exit→Act→World→Prop} (hL:∀listed a w,C w→L listed a→wpAny P md ops Q' g listed a w) :
 ∀(f:Nat) (listed:Array Bool) (a:Act) (w:World),C w→Ur P md ops C n L f listed a→wpAny P md ops Q' (f+g) listed a w
 | 0,listed,a,w,hw,h=>by rw[Nat.zero_add];exact hL _ _ _ hw h
 | f+1,listed,a,w,hw,h=>by
  rw[show f+1+g=(f+g)+1 by omega];exact ⟨fun h0=>absurd h0 h.1,fun i hi=>wpOp_of_qOp hw (fun a' w' hw' h'=>Rh hL f _ a' w' hw' h') (h.2 i hi).2⟩
theorem A3l {n i:Nat} {oi:Oper} {v:Value} {L:Array Bool→Act→Prop} (hi:ops[i]?=some oi) (hsel:∀(j:Nat) (o:Oper) cs b,ops[j]?=some o→o.op≠.select cs b)
 (hs:Region.sinkB md ops n=true) (hc:Region.chainB md ops n=true) (hn:n<ops.size) (hin:i<n)
 (hdone:∀listed a,L listed a→∀j∈Region.ready md ops listed,n≤j) :
 ∀(f:Nat) (listed:Array Bool) (a:Act),HeadInv md ops n listed→
  (∀j oj,ops[j]?=some oj→j≠i→listed.getD j true=false→(∀e∈oj.after,Region.binds md e=true→e.on≠i)→oi.apart ops oj=true)→
  i∈Region.ready md ops listed→YieldsIn P ops C oi v a→
  Ur P md ops C n L f (listed.setIfInBounds i true) (a.put oi.dst v)→Ur P md ops C n L (f+1) listed a:=by
 intro f;induction f with
 | zero=>
  intro listed a aE _ hr hy H;have aB:=(mem_ready.1 hr).1;refine ⟨fun h=>(by rw[h]at hr;cases hr),fun j hj=>?_⟩;have aF:j<n:=by
   rcases Nat.lt_or_ge j n with h | h
   ·exact h
   ·exact absurd hj (tail_waits hs hc hn aE _ i rfl hin aB j h)
  refine ⟨aF,?_⟩;by_cases hji:j=i
  ·subst hji;exact hy.qOp hi H
  ·have:=hdone _ _ H j (ready_mono hj hji);omega
 | succ f ih=>
  intro listed a aE aA hr hy H;have aB:=(mem_ready.1 hr).1;refine ⟨fun h=>(by rw[h]at hr;cases hr),fun j hj=>?_⟩;have aF:j<n:=by
   rcases Nat.lt_or_ge j n with h | h
   ·exact h
   ·exact absurd hj (tail_waits hs hc hn aE _ i rfl hin aB j h)
  refine ⟨aF,?_⟩;by_cases hji:j=i
  ·subst hji;exact hy.qOp hi H
  ·have h1:=(H.2 j (ready_mono hj hji)).2;obtain⟨aD,oj,aG,aH⟩:=mem_ready.1 hj;have aI:∀e∈oj.after,Region.binds md e=true→e.on≠i:=fun e he hb heq=>by
    have h1:=aH e he hb;rw[heq,getD_both aB]at h1;cases h1
   have h2:=qOp_put aG (aA j oj aG hji aD aI) (fun cs b=>hsel i oi cs b hi) (fun cs b=>hsel j oj cs b aG) hy h1;have aC:∀k ok,ops[k]?=some ok→k≠i→(listed.setIfInBounds j true).getD k true=false→
    (∀e∈ok.after,Region.binds md e=true→e.on≠i)→oi.apart ops ok=true:=fun k ok hk hki aB hno=>by
    refine aA k ok hk hki ?_ hno;by_cases hjk:j=k
    ·subst hjk;exact aD
    ·rw[getD_set_ne true hjk]at aB;exact aB
   refine qOp_mono (fun a' h3=>ih (listed.setIfInBounds j true) a' (aE.set hj aF) aC (ready_mono hr (Ne.symm hji)) h3.1 ?_) h2;rw[Array.setIfInBounds_comm _ _ hji];exact h3.2
theorem Xo {n g:Nat} {Lq:Act→Prop} (hsel:Region.noSelect ops=true) (hs:Region.sinkB md ops n=true) (hc:Region.chainB md ops n=true) (hn:n<ops.size) :
 ∀(l:List Oper) (k:Nat) (listed:Array Bool) (a:Act),(∀j,j<l.length→l[j]?=ops[k+j]?)→k+l.length=n→HeadInv md ops n listed→
 Region.lexHead md ops g l.length k listed=true→wpQuiet P ops C Lq l a→
 Ur P md ops C n (fun listed' a'=>Region.seqB md ops g n listed'=true∧Lq a') l.length listed a
 | [],k,listed,a,_,hk,_,hB,h=>by
  have:k=n:=by simpa using hk
  subst this;exact ⟨by simpa [Region.lexHead] using hB,h⟩
 | o::l,k,listed,a,hl,hk,inv,hB,h=>by
  have h0:ops[k]?=some o:=by simpa using (hl 0 (by simp)).symm
  simp only[List.length_cons,Region.lexHead,Bool.and_eq_true]at hB;obtain⟨⟨hr,hf⟩,aC⟩:=hB;have aA:k<n:=by simp only[List.length_cons]at hk;omega
  have aB:k∈Region.ready md ops listed:=by simpa using hr
  have aD:qOp P ops C k (wpQuiet P ops C Lq l) a:=by unfold qOp;simp only[h0];exact h
  obtain⟨v,hy,hK⟩:=yieldsIn_of_qOp h0 aD;exact A3l h0 (Region.noSelect_spec hsel) hs hc hn aA (fun listed' a' hL=>seqB_ready hL.1) l.length listed a inv (Region.free_spec h0 hf) aB hy
   (Xo hsel hs hc hn l (k+1) _ _ (fun j hj=>by have:=hl (j+1) (by simp;omega);simpa [Nat.add_assoc,Nat.add_comm 1 j] using this) (by simp only[List.length_cons]at hk;omega) (inv.set aB aA) aC hK)
theorem Wc (C:World→Prop) {id:Nat} {Q:Exit→Act→World→Prop} {a:Act} {w:World} {l:List Oper} (n:Nat) (hm:P.follows .mixedOrders=true) (hB:Region.lexTailB .any l.toArray n=true) (hC:C w.drew)
 (h:wpQuiet P l.toArray C (fun a'=>∀w',C w'→wpList P l.toArray Q (l.drop n) a' w') (l.take n) a):(Code.region id l.toArray true).wp P Q a w:=by
 simp only[Region.lexTailB,Bool.and_eq_true,decide_eq_true_eq]at hB;obtain⟨⟨⟨⟨aB,hn⟩,hs⟩,hc⟩,aC⟩:=hB;have aG:n<l.length:=by simpa using hn
 have aA:(l.take n).length=n:=by simp;omega
 have aE:(l.drop n).length=l.toArray.size-n:=by simp
 have aD:HeadInv .any l.toArray n (Array.replicate l.toArray.size false):=
  ⟨by simp,fun j oj _ hl=>(by rw[getD_replicate_false]at hl;cases hl),fun t _ ht=>getD_in (by simpa using ht) (getD_replicate_false _ _)⟩
 have H:=Xo (md:=.any) (g:=l.toArray.size-n) aB hs hc hn (l.take n) 0 _ a (fun j hj=>by
  have aF:j<n:=by rw[aA]at hj;exact hj
  simp[aF]) (by simpa using aA) aD (by rw[aA];exact aC) h
 refine wp_region_any hm ?_;have:=Rh (Q':=Q) (g:=l.toArray.size-n) (fun listed a' w' hw' hL=>by
  have:=wpAny_of_seq (md:=.any) (Q':=Q) (l.drop n) n listed a' w' (fun j=>by simp[List.getElem?_drop]) (by rw[aE];exact hL.1) (hL.2 w' hw');rwa [aE]at this) _ _ _ _ hC H
 rw[aA,show n+(l.toArray.size-n)=l.toArray.size by omega]at this;exact this
theorem Y7 {id:Nat} {Q:Exit→Act→World→Prop} {a:Act} {w:World} {l:List Oper} (n:Nat) (hm:P.follows .mixedOrders=true) (hB:Region.lexTailB .any l.toArray n=true)
 (h:wpQuiet P l.toArray (fun w'=>∃n,w'=w.drewN n) (fun a'=>∀w',(∃n,w'=w.drewN n)→wpList P l.toArray Q (l.drop n) a' w') (l.take n) a):(Code.region id l.toArray true).wp P Q a w:=
 Wc (fun w'=>∃n,w'=w.drewN n) n hm hB ⟨1,rfl⟩ h
end
namespace Sh
theorem Rj {α:Type} (M:List α) (k:Nat) (x:α) (h:k<M.length):(M.set k x).take (k+1)=M.take k++[x]:=by
 rw[List.take_add_one,List.take_set_of_le (by omega)];simp[h]
theorem Vk {α:Type} (M W:List α) (d:α) (k j:Nat) (hM:M.take k=W) (hj:j<k):M.getD j d=W.getD j d:=by
 subst hM;simp[hj]
theorem Kc {α:Type} (A B:List α) (k:Nat) (x:α) (hl:A.length=B.length) (hk:k<A.length) (hx:A[k]?=some x) :
 (A.take k++B.drop k).set k x=A.take (k+1)++B.drop (k+1):=by
 have ht:(A.take k).length=k:=by simp;omega
 rw[List.set_append_right _ _ (by omega),ht,Nat.sub_self];have hb:k<B.length:=by omega
 rw[List.drop_eq_getElem_cons hb];simp only[List.set_cons_zero];rw[List.take_add_one,hx];simp
theorem D3z (b:List UInt8) (M:List UInt32) (k:Nat) (hk:k<M.length) (h16:k<16) (h:M.take k=Lh b k):(M.set k (Oq b k)).take (k+1)=Lh b (k+1):=by
 rw[Rj _ _ _ hk,h];show _=Lh b k++[if k<16 then Oq b k else _];rw[if_pos h16]
theorem D2q (b:List UInt8) (M:List UInt32) (k:Nat) (hk:k<M.length) (h16:16≤k) (h:M.take k=Lh b k) :
 (M.set k (Xi (Ad M (k-2)) (Ad M (k-7)) (Ad M (k-15)) (Ad M (k-16)))).take (k+1)=Lh b (k+1):=by
 rw[Rj _ _ _ hk];show _=Lh b k++[if k<16 then Oq b k else Xi (Ad (Lh b k) (k-2)) (Ad (Lh b k) (k-7)) (Ad (Lh b k) (k-15)) (Ad (Lh b k) (k-16))];rw[if_neg (by omega),h];have e:∀j,j<k→Ad M j=Ad (Lh b k) j:=fun j hj=>Vk M _ 0 k j h hj;rw[e _ (by omega),e _ (by omega),e _ (by omega),e _ (by omega)]
theorem C7j (b:List UInt8) (M:List UInt32) (h:M.take 64=Lh b 64) (hM:M.length=64):M=Lh b 64:=by
 rw[←h,List.take_of_length_le (by omega)]
theorem A9k (h v:List UInt32) (hh:h.length=8) (hv:v.length=8) (k:Nat) (hk:k<8):(add32 h v)[k]?=some (Ad h k+Ad v k):=by
 unfold add32 Ad;rw[List.getElem?_eq_getElem (by simp;omega)];simp[show k<h.length by omega,show k<v.length by omega]
theorem B3t (h v:List UInt32) (hh:h.length=8) (hv:v.length=8) (k:Nat) (hk:k<8) :
 ((add32 h v).take k++h.drop k).set k (Ad h k+Ad v k)=(add32 h v).take (k+1)++h.drop (k+1):=
 Kc _ _ _ _ (by simp[add32];omega) (by simp[add32];omega) (A9k h v hh hv k hk)
theorem C2s (A B:List UInt32) (k:Nat) (hl:k<A.length):Ad (A.take k++B.drop k) k=Ad B k:=by
 unfold Ad;have ht:(A.take k).length=k:=by simp;omega
 rw[List.getD_eq_getElem?_getD,List.getElem?_append_right (by omega),ht];simp
theorem D5m (b:List UInt8) (M:List UInt64) (k:Nat) (hk:k<M.length) (h16:k<16) (h:M.take k=Zh b k):(M.set k (A2i b k)).take (k+1)=Zh b (k+1):=by
 rw[Rj _ _ _ hk,h];show _=Zh b k++[if k<16 then A2i b k else _];rw[if_pos h16]
theorem D4f (b:List UInt8) (M:List UInt64) (k:Nat) (hk:k<M.length) (h16:16≤k) (h:M.take k=Zh b k) :
 (M.set k (A6f (E9 M (k-2)) (E9 M (k-7)) (E9 M (k-15)) (E9 M (k-16)))).take (k+1)=Zh b (k+1):=by
 rw[Rj _ _ _ hk];show _=Zh b k++[if k<16 then A2i b k else A6f (E9 (Zh b k) (k-2)) (E9 (Zh b k) (k-7)) (E9 (Zh b k) (k-15)) (E9 (Zh b k) (k-16))];rw[if_neg (by omega),h];have e:∀j,j<k→E9 M j=E9 (Zh b k) j:=fun j hj=>Vk M _ 0 k j h hj;rw[e _ (by omega),e _ (by omega),e _ (by omega),e _ (by omega)]
theorem C8n (b:List UInt8) (M:List UInt64) (h:M.take 80=Zh b 80) (hM:M.length=80):M=Zh b 80:=by
 rw[←h,List.take_of_length_le (by omega)]
theorem C4c (h v:List UInt64) (hh:h.length=8) (hv:v.length=8) (k:Nat) (hk:k<8):(add64 h v)[k]?=some (E9 h k+E9 v k):=by
 unfold add64 E9;rw[List.getElem?_eq_getElem (by simp;omega)];simp[show k<h.length by omega,show k<v.length by omega]
theorem B2p (h v:List UInt64) (hh:h.length=8) (hv:v.length=8) (k:Nat) (hk:k<8) :
 ((add64 h v).take k++h.drop k).set k (E9 h k+E9 v k)=(add64 h v).take (k+1)++h.drop (k+1):=
 Kc _ _ _ _ (by simp[add64];omega) (by simp[add64];omega) (C4c h v hh hv k hk)
theorem B0o (A B:List UInt64) (k:Nat) (hl:k<A.length):E9 (A.take k++B.drop k) k=E9 B k:=by
 unfold E9;have ht:(A.take k).length=k:=by simp;omega
 rw[List.getD_eq_getElem?_getD,List.getElem?_append_right (by omega),ht];simp
theorem A8b (S:List UInt32):∀(k j:Nat),k<S.length→j<4→(Ds S)[4*k+j]?=(Ow (Ad S k))[j]?:=by
 unfold Ds;induction S with
 | nil=>intro k j hk;simp at hk
 | cons x S ih=>
  intro k j hk hj;have hb:(Ow x).length=4:=rfl;rw[List.flatMap_cons];cases k with
  | zero=>
   rw[List.getElem?_append_left (by omega)];simp[Ad]
  | succ k=>
   rw[List.getElem?_append_right (by omega),hb];have:=ih k j (by simpa using hk) hj;rw[show 4*(k+1)+j-4=4*k+j by omega,this];simp[Ad]
theorem Sm (S:List UInt32) (Z:List UInt8) (hZ:Z.length=4*S.length) (k j:Nat) (hk:k<S.length) (hj:j<4) (x:UInt8) (hx:(Ow (Ad S k))[j]?=some x) :
 ((Ds S).take (4*k+j)++Z.drop (4*k+j)).set (4*k+j) x=(Ds S).take (4*k+(j+1))++Z.drop (4*k+(j+1)):=
 Kc _ _ _ _ (by rw[Ja,hZ]) (by rw[Ja];omega) (by rw[A8b S k j hk hj,hx])
theorem C4q (S:List UInt64):∀(k j:Nat),k<S.length→j<8→(Jf S)[8*k+j]?=(Pf (E9 S k))[j]?:=by
 unfold Jf;induction S with
 | nil=>intro k j hk;simp at hk
 | cons x S ih=>
  intro k j hk hj;have hb:(Pf x).length=8:=rfl;rw[List.flatMap_cons];cases k with
  | zero=>
   rw[List.getElem?_append_left (by omega)];simp[E9]
  | succ k=>
   rw[List.getElem?_append_right (by omega),hb];have:=ih k j (by simpa using hk) hj;rw[show 8*(k+1)+j-8=8*k+j by omega,this];simp[E9]
theorem B8u (S:List UInt64) (Z:List UInt8) (hZ:Z.length=8*S.length) (k j:Nat) (hk:k<S.length) (hj:j<8) (x:UInt8) (hx:(Pf (E9 S k))[j]?=some x) :
 ((Jf S).take (8*k+j)++Z.drop (8*k+j)).set (8*k+j) x=(Jf S).take (8*k+(j+1))++Z.drop (8*k+(j+1)):=
 Kc _ _ _ _ (by rw[Kt,hZ]) (by rw[Kt];omega) (by rw[C4q S k j hk hj,hx])
end Sh
end Go.Proofs.YtlegpkdighoflaaGreat
