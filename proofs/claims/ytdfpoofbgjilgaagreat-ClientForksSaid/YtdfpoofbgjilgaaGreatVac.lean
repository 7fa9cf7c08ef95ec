/- A part of the proof of ClientForks. -/
import Derived.Deep.Draws
import Derived.WalkKit
import Derived.WalkLawsBesides
import Derived.KernelRfl
import Derived.StillTailTactics
import Derived.BigQuiet
import Derived.Outline
import Derived.Lib.Hide
import Derived.Test.YtdfpoofbgjilgaaGreatVab
set_option linter.unusedVariables false
set_option linter.unusedSimpArgs false
set_option maxRecDepth 100000
set_option maxHeartbeats 40000000
namespace Go.Proofs.YtdfpoofbgjilgaaGreat
open Go Go.RowKit Sh
theorem B9k (k:Int) (h : -64<k∧k<0):IntKind.u64.wrap k=(((18446744073709551616+k).toNat:Nat):Int):=by
 simp only[IntKind.wrap,IntKind.bits,IntKind.signed];simp;omega
theorem F7v (k:Int) (h : -32<k∧k<0):bits .and .u64 (IntKind.u64.wrap k) 31=(((32+k).toNat:Nat):Int):=by
 rw[B9k k (by omega)];have:=u64_and_nat (18446744073709551616+k).toNat 31 (by omega) (by omega);rw[nat_mask5]at this;exact this.trans (by omega)
theorem F8h (k:Int) (h : -64<k∧k<0):bits .and .u64 (IntKind.u64.wrap k) 63=(((64+k).toNat:Nat):Int):=by
 rw[B9k k (by omega)];have:=u64_and_nat (18446744073709551616+k).toNat 63 (by omega) (by omega);rw[nat_mask6]at this;exact this.trans (by omega)
theorem D3a (x:UInt32) (k:Int) (s t:Nat) (hs:s<32) (ht:t<32)
 (h1:bits .and .u64 (IntKind.u64.wrap k) 31=(s:Int)) (h2:IntKind.u64.wrap (32-(s:Int))=(t:Int)) (w:World) :
 Calls Tryz.prog 163 #[.int .u32 (Y9 x),.int .i64 k] w fun e w'=>e=.returned (.int .u32 (Y9 (x <<< UInt32.ofNat s ||| x >>> UInt32.ofNat t)))∧w'=w:=by
 go_enter Tryz.func163,Tryz.ntmps163;go_wp2;go_ret;exact ⟨rfl,rfl⟩
theorem D6k (x:UInt64) (k:Int) (s t:Nat) (hs:s<64) (ht:t<64)
 (h1:bits .and .u64 (IntKind.u64.wrap k) 63=(s:Int)) (h2:IntKind.u64.wrap (64-(s:Int))=(t:Int)) (w:World) :
 Calls Tryz.prog 165 #[.int .u64 (C8 x),.int .i64 k] w fun e w'=>e=.returned (.int .u64 (C8 (x <<< UInt64.ofNat s ||| x >>> UInt64.ofNat t)))∧w'=w:=by
 go_enter Tryz.func165,Tryz.ntmps165;go_wp2;go_ret;exact ⟨rfl,rfl⟩
theorem A3n (x:UInt32) (k:Int) (h : -32<k∧k<0) (w:World) :
 Calls Tryz.prog 163 #[.int .u32 (Y9 x),.int .i64 k] w fun e w'=>e=.returned (.int .u32 (Y9 (Hk x k)))∧w'=w:=
 D3a x k _ _ (by omega) (by omega) (F7v k h) ((IntWalk.u64_in _ (by omega)).trans (by omega)) w
theorem A5r (x:UInt64) (k:Int) (h : -64<k∧k<0) (w:World) :
 Calls Tryz.prog 165 #[.int .u64 (C8 x),.int .i64 k] w fun e w'=>e=.returned (.int .u64 (C8 (Hb x k)))∧w'=w:=
 D6k x k _ _ (by omega) (by omega) (F8h k h) ((IntWalk.u64_in _ (by omega)).trans (by omega)) w
theorem Em {P:Program} {f:FuncId} {args:Array Value} {w:World} {m:Nat} {v:Value} (h:∀W:World,Calls P f args W fun e w'=>e=.returned v∧w'=W) :
 Calls P f args (w.drewN m) fun e w''=>e=.returned v∧∃m,w''=w.drewN m:=
 (h _).mono fun _ _ ⟨he,hm⟩=>⟨he,m,hm⟩
theorem Dk {P:Program} {f:FuncId} {args:Array Value} {w:World} {m n:Nat} {v:Value} (h:∀W:World,Calls P f args W fun e w'=>e=.returned v∧w'=W) :
 Calls P f args (w.drewN (m+n)) fun e w''=>e=.returned v∧∃k,w''=w.drewN (m+k):=
 (h _).mono fun _ _ ⟨he,hm⟩=>⟨he,n,hm⟩
section
variable {P : Program} {ops : Array Oper} {md : Region.Mode} {C : World → Prop}
def Tv (P:Program) (md:Region.Mode) (ops:Array Oper) (C:World→Prop) (n:Nat) (L:Array Bool→Act→Prop):Nat→Array Bool→Act→Prop
 | 0,listed,a=>L listed a
 | f+1,listed,a=>
  Region.ready md ops listed≠[]∧∀i∈Region.ready md ops listed,i<n∧qOp P ops C i (Tv P md ops C n L f (listed.setIfInBounds i true)) a
theorem Oj {n g:Nat} {L:Array Bool→Act→Prop} {Q':Exit→Act→World→Prop} (hL:∀listed a w,C w→L listed a→wpAny P md ops Q' g listed a w) :
 ∀(f:Nat) (listed:Array Bool) (a:Act) (w:World),C w→Tv P md ops C n L f listed a→wpAny P md ops Q' (f+g) listed a w
 | 0,listed,a,w,hw,h=>by rw[Nat.zero_add];exact hL _ _ _ hw h
 | f+1,listed,a,w,hw,h=>by
  rw[show f+1+g=(f+g)+1 by omega];exact ⟨fun h0=>absurd h0 h.1,fun i hi=>wpOp_of_qOp hw (fun a' w' hw' h'=>Oj hL f _ a' w' hw' h') (h.2 i hi).2⟩
theorem A2y {n i:Nat} {oi:Oper} {v:Value} {L:Array Bool→Act→Prop} (hi:ops[i]?=some oi) (hsel:∀(j:Nat) (o:Oper) cs b,ops[j]?=some o→o.op≠.select cs b)
 (hs:Region.sinkB md ops n=true) (hc:Region.chainB md ops n=true) (hn:n<ops.size) (hin:i<n)
 (hdone:∀listed a,L listed a→∀j∈Region.ready md ops listed,n≤j) :
 ∀(f:Nat) (listed:Array Bool) (a:Act),HeadInv md ops n listed→
  (∀j oj,ops[j]?=some oj→j≠i→listed.getD j true=false→(∀e∈oj.after,Region.binds md e=true→e.on≠i)→oi.apart ops oj=true)→
  i∈Region.ready md ops listed→YieldsIn P ops C oi v a→
  Tv P md ops C n L f (listed.setIfInBounds i true) (a.put oi.dst v)→Tv P md ops C n L (f+1) listed a:=by
 intro f;induction f with
 | zero=>
  intro listed a aE _ hr hy H;have aB:=(mem_ready.1 hr).1;refine ⟨fun h=>(by rw[h]at hr;cases hr),fun j hj=>?_⟩;have aF:j<n:=by
   rcases Nat.lt_or_ge j n with h | h
   ·exact h
   ·exact absurd hj (tail_waits hs hc hn aE _ i rfl hin aB j h)
  refine ⟨aF,?_⟩;by_cases hji:j=i
  ·subst hji;exact hy.qOp hi H
  ·have:=hdone _ _ H j (ready_mono hj hji);omega
 | succ f ih=>
  intro listed a aE aA hr hy H;have aB:=(mem_ready.1 hr).1;refine ⟨fun h=>(by rw[h]at hr;cases hr),fun j hj=>?_⟩;have aF:j<n:=by
   rcases Nat.lt_or_ge j n with h | h
   ·exact h
   ·exact absurd hj (tail_waits hs hc hn aE _ i rfl hin aB j h)
  refine ⟨aF,?_⟩;by_cases hji:j=i
  ·subst hji;exact hy.qOp hi H
  ·have h1:=(H.2 j (ready_mono hj hji)).2;obtain⟨aD,oj,aG,aH⟩:=mem_ready.1 hj;have aI:∀e∈oj.after,Region.binds md e=true→e.on≠i:=fun e he hb heq=>by
    have h1:=aH e he hb;rw[heq,getD_both aB]at h1;cases h1
   have h2:=qOp_put aG (aA j oj aG hji aD aI) (fun cs b=>hsel i oi cs b hi) (fun cs b=>hsel j oj cs b aG) hy h1;have aC:∀k ok,ops[k]?=some ok→k≠i→(listed.setIfInBounds j true).getD k true=false→
    (∀e∈ok.after,Region.binds md e=true→e.on≠i)→oi.apart ops ok=true:=fun k ok hk hki aB hno=>by
    refine aA k ok hk hki ?_ hno;by_cases hjk:j=k
    ·subst hjk;exact aD
    ·rw[getD_set_ne true hjk]at aB;exact aB
   refine qOp_mono (fun a' h3=>ih (listed.setIfInBounds j true) a' (aE.set hj aF) aC (ready_mono hr (Ne.symm hji)) h3.1 ?_) h2;rw[Array.setIfInBounds_comm _ _ hji];exact h3.2
theorem Wn {n g:Nat} {Lq:Act→Prop} (hsel:Region.noSelect ops=true) (hs:Region.sinkB md ops n=true) (hc:Region.chainB md ops n=true) (hn:n<ops.size) :
 ∀(l:List Oper) (k:Nat) (listed:Array Bool) (a:Act),(∀j,j<l.length→l[j]?=ops[k+j]?)→k+l.length=n→HeadInv md ops n listed→
 Region.lexHead md ops g l.length k listed=true→wpQuiet P ops C Lq l a→
 Tv P md ops C n (fun listed' a'=>Region.seqB md ops g n listed'=true∧Lq a') l.length listed a
 | [],k,listed,a,_,hk,_,hB,h=>by
  have:k=n:=by simpa using hk
  subst this;exact ⟨by simpa [Region.lexHead] using hB,h⟩
 | o::l,k,listed,a,hl,hk,inv,hB,h=>by
  have h0:ops[k]?=some o:=by simpa using (hl 0 (by simp)).symm
  simp only[List.length_cons,Region.lexHead,Bool.and_eq_true]at hB;obtain⟨⟨hr,hf⟩,aC⟩:=hB;have aA:k<n:=by simp only[List.length_cons]at hk;omega
  have aB:k∈Region.ready md ops listed:=by simpa using hr
  have aD:qOp P ops C k (wpQuiet P ops C Lq l) a:=by unfold qOp;simp only[h0];exact h
  obtain⟨v,hy,hK⟩:=yieldsIn_of_qOp h0 aD;exact A2y h0 (Region.noSelect_spec hsel) hs hc hn aA (fun listed' a' hL=>seqB_ready hL.1) l.length listed a inv (Region.free_spec h0 hf) aB hy
   (Wn hsel hs hc hn l (k+1) _ _ (fun j hj=>by have:=hl (j+1) (by simp;omega);simpa [Nat.add_assoc,Nat.add_comm 1 j] using this) (by simp only[List.length_cons]at hk;omega) (inv.set aB aA) aC hK)
theorem Vl (C:World→Prop) {id:Nat} {Q:Exit→Act→World→Prop} {a:Act} {w:World} {l:List Oper} (n:Nat) (hm:P.follows .mixedOrders=true) (hB:Region.lexTailB .any l.toArray n=true) (hC:C w.drew)
 (h:wpQuiet P l.toArray C (fun a'=>∀w',C w'→wpList P l.toArray Q (l.drop n) a' w') (l.take n) a):(Code.region id l.toArray true).wp P Q a w:=by
 simp only[Region.lexTailB,Bool.and_eq_true,decide_eq_true_eq]at hB;obtain⟨⟨⟨⟨aB,hn⟩,hs⟩,hc⟩,aC⟩:=hB;have aG:n<l.length:=by simpa using hn
 have aA:(l.take n).length=n:=by simp;omega
 have aE:(l.drop n).length=l.toArray.size-n:=by simp
 have aD:HeadInv .any l.toArray n (Array.replicate l.toArray.size false):=
  ⟨by simp,fun j oj _ hl=>(by rw[getD_replicate_false]at hl;cases hl),fun t _ ht=>getD_in (by simpa using ht) (getD_replicate_false _ _)⟩
 have H:=Wn (md:=.any) (g:=l.toArray.size-n) aB hs hc hn (l.take n) 0 _ a (fun j hj=>by
  have aF:j<n:=by rw[aA]at hj;exact hj
  simp[aF]) (by simpa using aA) aD (by rw[aA];exact aC) h
 refine wp_region_any hm ?_;have:=Oj (Q':=Q) (g:=l.toArray.size-n) (fun listed a' w' hw' hL=>by
  have:=wpAny_of_seq (md:=.any) (Q':=Q) (l.drop n) n listed a' w' (fun j=>by simp[List.getElem?_drop]) (by rw[aE];exact hL.1) (hL.2 w' hw');rwa [aE]at this) _ _ _ _ hC H
 rw[aA,show n+(l.toArray.size-n)=l.toArray.size by omega]at this;exact this
theorem Cn {id:Nat} {Q:Exit→Act→World→Prop} {a:Act} {w:World} {l:List Oper} (n:Nat) (hm:P.follows .mixedOrders=true) (hB:Region.lexTailB .any l.toArray n=true)
 (h:wpQuiet P l.toArray (fun w'=>∃n,w'=w.drewN n) (fun a'=>∀w',(∃n,w'=w.drewN n)→wpList P l.toArray Q (l.drop n) a' w') (l.take n) a):(Code.region id l.toArray true).wp P Q a w:=
 Vl (fun w'=>∃n,w'=w.drewN n) n hm hB ⟨1,rfl⟩ h
end
namespace Sh
theorem Mp {α:Type} (M:List α) (k:Nat) (x:α) (h:k<M.length):(M.set k x).take (k+1)=M.take k++[x]:=by
 rw[List.take_add_one,List.take_set_of_le (by omega)];simp[h]
theorem Un {α:Type} (M W:List α) (d:α) (k j:Nat) (hM:M.take k=W) (hj:j<k):M.getD j d=W.getD j d:=by
 subst hM;simp[hj]
theorem Mn {α:Type} (A B:List α) (k:Nat) (x:α) (hl:A.length=B.length) (hk:k<A.length) (hx:A[k]?=some x) :
 (A.take k++B.drop k).set k x=A.take (k+1)++B.drop (k+1):=by
 have ht:(A.take k).length=k:=by simp;omega
 rw[List.set_append_right _ _ (by omega),ht,Nat.sub_self];have hb:k<B.length:=by omega
 rw[List.drop_eq_getElem_cons hb];simp only[List.set_cons_zero];rw[List.take_add_one,hx];simp
theorem E1z (b:List UInt8) (M:List UInt32) (k:Nat) (hk:k<M.length) (h16:k<16) (h:M.take k=Yp b k):(M.set k (A1d b k)).take (k+1)=Yp b (k+1):=by
 rw[Mp _ _ _ hk,h];show _=Yp b k++[if k<16 then A1d b k else _];rw[if_pos h16]
theorem E0c (b:List UInt8) (M:List UInt32) (k:Nat) (hk:k<M.length) (h16:16≤k) (h:M.take k=Yp b k) :
 (M.set k (A6y (Ca M (k-2)) (Ca M (k-7)) (Ca M (k-15)) (Ca M (k-16)))).take (k+1)=Yp b (k+1):=by
 rw[Mp _ _ _ hk];show _=Yp b k++[if k<16 then A1d b k else A6y (Ca (Yp b k) (k-2)) (Ca (Yp b k) (k-7)) (Ca (Yp b k) (k-15)) (Ca (Yp b k) (k-16))];rw[if_neg (by omega),h];have e:∀j,j<k→Ca M j=Ca (Yp b k) j:=fun j hj=>Un M _ 0 k j h hj;rw[e _ (by omega),e _ (by omega),e _ (by omega),e _ (by omega)]
theorem D5f (b:List UInt8) (M:List UInt32) (h:M.take 64=Yp b 64) (hM:M.length=64):M=Yp b 64:=by
 rw[←h,List.take_of_length_le (by omega)]
theorem C6o (h v:List UInt32) (hh:h.length=8) (hv:v.length=8) (k:Nat) (hk:k<8):(add32 h v)[k]?=some (Ca h k+Ca v k):=by
 unfold add32 Ca;rw[List.getElem?_eq_getElem (by simp;omega)];simp[show k<h.length by omega,show k<v.length by omega]
theorem B6g (h v:List UInt32) (hh:h.length=8) (hv:v.length=8) (k:Nat) (hk:k<8) :
 ((add32 h v).take k++h.drop k).set k (Ca h k+Ca v k)=(add32 h v).take (k+1)++h.drop (k+1):=
 Mn _ _ _ _ (by simp[add32];omega) (by simp[add32];omega) (C6o h v hh hv k hk)
theorem C8i (A B:List UInt32) (k:Nat) (hl:k<A.length):Ca (A.take k++B.drop k) k=Ca B k:=by
 unfold Ca;have ht:(A.take k).length=k:=by simp;omega
 rw[List.getD_eq_getElem?_getD,List.getElem?_append_right (by omega),ht];simp
theorem E1l (b:List UInt8) (M:List UInt64) (k:Nat) (hk:k<M.length) (h16:k<16) (h:M.take k=Yi b k):(M.set k (A0i b k)).take (k+1)=Yi b (k+1):=by
 rw[Mp _ _ _ hk,h];show _=Yi b k++[if k<16 then A0i b k else _];rw[if_pos h16]
theorem E2f (b:List UInt8) (M:List UInt64) (k:Nat) (hk:k<M.length) (h16:16≤k) (h:M.take k=Yi b k) :
 (M.set k (A7o (E8 M (k-2)) (E8 M (k-7)) (E8 M (k-15)) (E8 M (k-16)))).take (k+1)=Yi b (k+1):=by
 rw[Mp _ _ _ hk];show _=Yi b k++[if k<16 then A0i b k else A7o (E8 (Yi b k) (k-2)) (E8 (Yi b k) (k-7)) (E8 (Yi b k) (k-15)) (E8 (Yi b k) (k-16))];rw[if_neg (by omega),h];have e:∀j,j<k→E8 M j=E8 (Yi b k) j:=fun j hj=>Un M _ 0 k j h hj;rw[e _ (by omega),e _ (by omega),e _ (by omega),e _ (by omega)]
theorem D3f (b:List UInt8) (M:List UInt64) (h:M.take 80=Yi b 80) (hM:M.length=80):M=Yi b 80:=by
 rw[←h,List.take_of_length_le (by omega)]
theorem C6j (h v:List UInt64) (hh:h.length=8) (hv:v.length=8) (k:Nat) (hk:k<8):(add64 h v)[k]?=some (E8 h k+E8 v k):=by
 unfold add64 E8;rw[List.getElem?_eq_getElem (by simp;omega)];simp[show k<h.length by omega,show k<v.length by omega]
theorem B6l (h v:List UInt64) (hh:h.length=8) (hv:v.length=8) (k:Nat) (hk:k<8) :
 ((add64 h v).take k++h.drop k).set k (E8 h k+E8 v k)=(add64 h v).take (k+1)++h.drop (k+1):=
 Mn _ _ _ _ (by simp[add64];omega) (by simp[add64];omega) (C6j h v hh hv k hk)
theorem C9x (A B:List UInt64) (k:Nat) (hl:k<A.length):E8 (A.take k++B.drop k) k=E8 B k:=by
 unfold E8;have ht:(A.take k).length=k:=by simp;omega
 rw[List.getD_eq_getElem?_getD,List.getElem?_append_right (by omega),ht];simp
theorem C6v (S:List UInt32):∀(k j:Nat),k<S.length→j<4→(Dj S)[4*k+j]?=(Ub (Ca S k))[j]?:=by
 unfold Dj;induction S with
 | nil=>intro k j hk;simp at hk
 | cons x S ih=>
  intro k j hk hj;have hb:(Ub x).length=4:=rfl;rw[List.flatMap_cons];cases k with
  | zero=>
   rw[List.getElem?_append_left (by omega)];simp[Ca]
  | succ k=>
   rw[List.getElem?_append_right (by omega),hb];have:=ih k j (by simpa using hk) hj;rw[show 4*(k+1)+j-4=4*k+j by omega,this];simp[Ca]
theorem Pq (S:List UInt32) (Z:List UInt8) (hZ:Z.length=4*S.length) (k j:Nat) (hk:k<S.length) (hj:j<4) (x:UInt8) (hx:(Ub (Ca S k))[j]?=some x) :
 ((Dj S).take (4*k+j)++Z.drop (4*k+j)).set (4*k+j) x=(Dj S).take (4*k+(j+1))++Z.drop (4*k+(j+1)):=
 Mn _ _ _ _ (by rw[Gi,hZ]) (by rw[Gi];omega) (by rw[C6v S k j hk hj,hx])
theorem C6u (S:List UInt64):∀(k j:Nat),k<S.length→j<8→(Dy S)[8*k+j]?=(Lm (E8 S k))[j]?:=by
 unfold Dy;induction S with
 | nil=>intro k j hk;simp at hk
 | cons x S ih=>
  intro k j hk hj;have hb:(Lm x).length=8:=rfl;rw[List.flatMap_cons];cases k with
  | zero=>
   rw[List.getElem?_append_left (by omega)];simp[E8]
  | succ k=>
   rw[List.getElem?_append_right (by omega),hb];have:=ih k j (by simpa using hk) hj;rw[show 8*(k+1)+j-8=8*k+j by omega,this];simp[E8]
theorem C1g (S:List UInt64) (Z:List UInt8) (hZ:Z.length=8*S.length) (k j:Nat) (hk:k<S.length) (hj:j<8) (x:UInt8) (hx:(Lm (E8 S k))[j]?=some x) :
 ((Dy S).take (8*k+j)++Z.drop (8*k+j)).set (8*k+j) x=(Dy S).take (8*k+(j+1))++Z.drop (8*k+(j+1)):=
 Mn _ _ _ _ (by rw[Gj,hZ]) (by rw[Gj];omega) (by rw[C6u S k j hk hj,hx])
end Sh
def h0:List UInt32:=Ae.map fun (r:UInt64)=>(r >>> 32).toUInt32
theorem B7z:h0.length=8:=by decide +kernel
theorem D3w (k:Nat) (hk:k<8):(Ft (h0.take k++(z32 8).drop k)).set k (.int .u32 (Y9 ((E8 Ae k) >>> 32).toUInt32))=Ft (h0.take (k+1)++(z32 8).drop (k+1)):=by
 rw[Yd];congr 1;refine Mn _ _ _ _ (by simp[B7z]) (by rw[B7z];exact hk) ?_;unfold h0 E8;have hl:Ae.length=8:=by decide +kernel
 rw[List.getElem?_map,List.getElem?_eq_getElem (by omega)];simp[hl,hk]
theorem Hf (v:Value) (ls:List (List UInt8)) (w:World) (hp:J9 w w.heap.size v ls) (hsz:ls.flatten.length≤1099511627776) :
 Calls Tryz.prog 104 #[v] w fun e w'=>e=.returned (A8 (Ih ls.flatten))∧Below w.heap.size w w':=by
 have bJ:Ae.length=8:=by decide +kernel
 go_enter Tryz.func104,Tryz.ntmps104;go_wp2_with fail;refine (A4r _).mono ?_;rintro e w1 ⟨rfl,aK⟩;have R1:Bk w1 w.heap.size 35 (c8 (z8 32)):=((Bk.new w _ _).alloc _).below aK (by simp;omega);have H1:Bk w1 (w.heap.size+1) 256 (Ft (z32 8)):=(by simpa using Bk.new (w.alloc (.cells (c8 (z8 32)).toArray 35)) 256 (Ft (z32 8)):Bk _ (w.heap.size+1) _ _).below aK (by simp);have B1:Below w.heap.size w w1:=(((Below.refl _ _).alloc (Nat.le_refl _) _).alloc (by simp) _).trans (aK.mono (by simp;omega));clear aK;go_wp2_with fail;go_loopw [24] (fun i wr=>∃k:Nat,k≤8∧i=.int .i64 k∧Bk wr w.heap.size 35 (c8 (z8 32))∧Bk wr (w.heap.size+1) 256 (Ft (h0.take k++(z32 8).drop k))∧Below w.heap.size w wr) (fun i _=>8-(intOf i).toNat)
 case atStart=>exact ⟨0,by omega,rfl,R1,H1,B1⟩
 case round=>
  obtain⟨k,hk,rfl,Rr,Hr,Br⟩:=hrel;clear R1 H1 B1;by_cases hlt:k<8
  ·have bK:wr.cell? ⟨w.heap.size+1,k,none⟩=some (.int .u32 (Y9 (Ca (h0.take k++(z32 8).drop k) k))):=Hr.at_ (Bn (by simp[B7z];omega));have bL:=Hr.frozen k;go_wp2;go_roundw;case rel=>exact ⟨k+1,by omega,by go_num,Rr.far (by simp) _,by have:=Hr.set_ k (.int .u32 (Y9 ((E8 Ae k) >>> 32).toUInt32));rwa [D3w k hlt]at this,Br.setCell (by simp) _⟩
   case measure=>simp[intOf];omega
  ·obtain rfl:k=8:=by omega
   go_wp2_with fail;refine (A3v _).mono ?_;rintro e w2 ⟨rfl,aL⟩;have h8:h0.take 8++(z32 8).drop 8=h0:=by decide +kernel
   rw[h8]at Hr;have R2:=Rr.below aL Rr.lt;have H2:=Hr.below aL Hr.lt;have B2:=Br.trans (aL.mono Br.size);have l2:=H2.lt;have aU:Y0.length=80:=by decide +kernel
   clear aL Rr Hr Br h8;go_wp2_with fail;obtain⟨w3,aE⟩:∃x,x=(C4 (w2.alloc (Obj.cells (E4 (J7 80)).toArray 259)) ⟨w2.heap.size,0,none⟩ (E4 Y0)).alloc (Obj.cells (Ft (z32 64)).toArray 261):=⟨_,rfl⟩;rw[←aE];have K3:Bk w3 w2.heap.size 259 (E4 Y0):=by rw[aE];exact ((Bk.new _ _ _).puts (by simp[aU])).alloc _
   have M3:Bk w3 (w2.heap.size+1) 261 (Ft (z32 64)):=by rw[aE];simpa using Bk.new (C4 (w2.alloc (Obj.cells (E4 (J7 80)).toArray 259)) ⟨w2.heap.size,0,none⟩ (E4 Y0)) 261 (Ft (z32 64))
   have R3:Bk w3 w.heap.size 35 (c8 (z8 32)):=by rw[aE];exact ((R2.alloc _).putFar (by simp;omega) _).alloc _
   have H3:Bk w3 (w.heap.size+1) 256 (Ft h0):=by rw[aE];exact ((H2.alloc _).putFar (by simp;omega) _).alloc _
   have B3:Below w.heap.size w w3:=by rw[aE];exact (C0 (B2.alloc B2.size _) (by exact B2.size) _).alloc (by simp;have:=B2.size;omega) _
   have l3:w3.heap.size=w2.heap.size+2:=by rw[aE];simp
   have P3:J9 w3 w3.heap.size v ls:=(hp.below B3).more B3.size;generalize hgk:w2.heap.size=gk at *;clear aE R2 H2 B2 aU;refine (A1e 64 (.inl rfl) v ls w3 P3 hsz).mono ?_;rintro e w4 ⟨u,rfl,hu,aG⟩;have K4:=K3.below aG K3.lt;have M4:=M3.below aG M3.lt;have R4:=R3.below aG R3.lt;have H4:=H3.below aG H3.lt;have B4:=B3.trans (aG.mono B3.size);have l4:=aG.size;have m3:=M3.lt;generalize hpd:pad 64 ls.flatten=p at *;clear aG K3 M3 R3 H3 B3 P3 hp;have Hp:=Lib.hid hpd;have aO:p.length % 64=0:=by rw[←hpd];exact (B8e _).1
   clear hpd l3 hgk w2;go_wp2_with fail;go_loopw [8] (fun b wr=>∃i:Nat,64*i≤p.length∧By w4 w3.heap.size w4.heap.size b (p.drop (64*i))∧Bk wr w.heap.size 35 (c8 (z8 32))∧Bk wr (w.heap.size+1) 256 (Ft (M9 p i))∧Bk wr gk 259 (E4 Y0)∧(∃M,M.length=64∧Bk wr (gk+1) 261 (Ft M))∧Below w.heap.size w wr∧w4.heap.size≤wr.heap.size∧Oz w3.heap.size w4.heap.size w4 wr) (fun b _=>B2f b)
   case atStart=>exact ⟨0,by omega,by simpa using hu,R4,H4,K4,⟨_,by simp,M4⟩,B4,Nat.le_refl _,Oz.refl _ _ _⟩
   case round=>
    obtain⟨i,hi,hb,Rr,Hr,Kr,⟨M,hM,Mr⟩,Br,lr,Dr⟩:=hrel;clear hu R4 H4 K4 M4 B4;obtain⟨A,c,rfl,hc,bM,aP⟩:=hb.open_;generalize hq:p.drop (64*i)=q at *;have aV:q.length=p.length-64*i:=by rw[←hq];simp
    have bA:q.length % 64=0:=by omega
    have Hq:=Lib.hid hq;have aW:=Lib.hid aV;clear hq aV hb aO;by_cases hgo:0<q.length
    ·obtain⟨g,o,rfl,aM,hg,aA⟩:=aP.some (by simpa using hgo);have bB:64≤q.length:=by omega
     clear bA;go_wp2_with fail;obtain⟨wo,rfl⟩:∃wo:World,wo=wr:=⟨_,rfl⟩;go_loopw [42] (fun t wr=>∃k:Nat,k≤16∧t=.int .i64 k∧Bk wr w.heap.size 35 (c8 (z8 32))∧Bk wr (w.heap.size+1) 256 (Ft (M9 p i))∧Bk wr gk 259 (E4 Y0)∧(∃M,M.length=64∧M.take k=Yp q k∧Bk wr (gk+1) 261 (Ft M))∧Below w.heap.size w wr∧w4.heap.size≤wr.heap.size∧Oz w3.heap.size w4.heap.size w4 wr) (fun t _=>16-(intOf t).toNat)
     case atStart=>exact ⟨0,by omega,rfl,Rr,Hr,Kr,⟨M,hM,rfl,Mr⟩,Br,lr,Dr⟩
     case round=>
      clear Rr Hr Kr Mr Br lr Dr hM M;obtain⟨k,hk,rfl,Rr,Hr,Kr,⟨M,hM,aI,Mr⟩,Br,lr,Dr⟩:=hrel;have HW:=Lib.hid aI;clear aI;by_cases hlt:k<16
      ·have e0:wr.cell? ⟨g,o+4*k,none⟩=some (.int .u8 (n8 (g8 q (4*k)))):=(Dr.cell aM hg).trans (B3i aA (by omega));have e1:wr.cell? ⟨g,o+(4*k+1),none⟩=some (.int .u8 (n8 (g8 q (4*k+1)))):=(Dr.cell aM hg).trans (B3i aA (by omega));have e2:wr.cell? ⟨g,o+(4*k+2),none⟩=some (.int .u8 (n8 (g8 q (4*k+2)))):=(Dr.cell aM hg).trans (B3i aA (by omega));have e3:wr.cell? ⟨g,o+(4*k+3),none⟩=some (.int .u8 (n8 (g8 q (4*k+3)))):=(Dr.cell aM hg).trans (B3i aA (by omega));have em:wr.cell? ⟨gk+1,k,none⟩=some (.int .u32 (Y9 (Ca M k))):=Mr.at_ (Bn (by omega));have ef:=Mr.frozen k;clear aA;go_wp2_with fail;refine Cn 35 (by kernel_rfl) (by kernel_rfl) ?_;simp only[List.take_succ_cons,List.take_zero,List.drop_succ_cons,List.drop_zero];repeat (go_big_quiet_step (fail))
       refine wpQuiet_nil ?_;rintro w' ⟨nq,rfl⟩;go_wp2_with fail;go_roundw;case rel=>
        refine ⟨k+1,by omega,by go_num,(Rr.drewN nq).far (by simp;omega) _,(Hr.drewN nq).far (by simp;omega) _,(Kr.drewN nq).far (by simp) _,⟨M.set k (A1d q k),by simp[hM],E1z q M k (by omega) hlt HW.out,?_⟩,(N6 Br nq).setCell (by simp;omega) _,by simpa using lr,(Dr.drewN nq).setCell (by simp;omega) _⟩;rw[←Yd];exact (Mr.drewN nq).set_ k _
       case measure=>simp[intOf];omega
      ·obtain rfl:k=16:=by omega
       go_wp2_with fail;obtain⟨wo,rfl⟩:∃wo:World,wo=wr:=⟨_,rfl⟩;go_loopw [10] (fun t wr=>∃k:Nat,16≤k∧k≤64∧t=.int .i64 k∧Bk wr w.heap.size 35 (c8 (z8 32))∧Bk wr (w.heap.size+1) 256 (Ft (M9 p i))∧Bk wr gk 259 (E4 Y0)∧(∃M,M.length=64∧M.take k=Yp q k∧Bk wr (gk+1) 261 (Ft M))∧Below w.heap.size w wr∧w4.heap.size≤wr.heap.size∧Oz w3.heap.size w4.heap.size w4 wr) (fun t _=>64-(intOf t).toNat)
       case atStart=>exact ⟨16,by omega,by omega,rfl,Rr,Hr,Kr,⟨M,hM,HW.out,Mr⟩,Br,lr,Dr⟩
       case round=>
        clear Rr Hr Kr Mr Br lr Dr hM HW M aA;obtain⟨k,aQ,hk,rfl,Rr,Hr,Kr,⟨M,hM,aI,Mr⟩,Br,lr,Dr⟩:=hrel;have HW:=Lib.hid aI;clear aI;by_cases hlt:k<64
        ·have e0:wr.cell? ⟨gk+1,k-15,none⟩=some (.int .u32 (Y9 (Ca M (k-15)))):=Mr.at_ (Bn (by omega));have e1:wr.cell? ⟨gk+1,k-2,none⟩=some (.int .u32 (Y9 (Ca M (k-2)))):=Mr.at_ (Bn (by omega));have e2:wr.cell? ⟨gk+1,k-7,none⟩=some (.int .u32 (Y9 (Ca M (k-7)))):=Mr.at_ (Bn (by omega));have e3:wr.cell? ⟨gk+1,k-16,none⟩=some (.int .u32 (Y9 (Ca M (k-16)))):=Mr.at_ (Bn (by omega));have em:wr.cell? ⟨gk+1,k,none⟩=some (.int .u32 (Y9 (Ca M k))):=Mr.at_ (Bn (by omega));have ef:=Mr.frozen k;go_wp2_with fail;go_quiet (fail);go_wp2_with fail;refine Cn 29 (by kernel_rfl) (by kernel_rfl) ?_;simp only[List.take_succ_cons,List.take_zero,List.drop_succ_cons,List.drop_zero];repeat (go_big_quiet_step ((go_at_call 163;first | exact Em (A3n _ _ (by omega)) | exact Dk (A3n _ _ (by omega)))))
         refine wpQuiet_nil ?_;rintro w' ⟨bC,rfl⟩;go_wp2_with fail;go_roundw;case rel=>
          refine ⟨k+1,by omega,by omega,by go_num,(Rr.drewN _).far (by simp;omega) _,(Hr.drewN _).far (by simp;omega) _,(Kr.drewN _).far (by simp) _,⟨M.set k (A6y (Ca M (k-2)) (Ca M (k-7)) (Ca M (k-15)) (Ca M (k-16))),by simp[hM],E0c q M k (by omega) aQ HW.out,?_⟩,(N6 Br _).setCell (by simp;omega) _,by simpa using lr,(Dr.drewN _).setCell (by simp;omega) _⟩;rw[←Yd];exact (Mr.drewN (nq+bC)).set_ k _
         case measure=>simp[intOf];omega
        ·obtain rfl:k=64:=by omega
         have aC:=Gz p i;have aD:D9 wr ⟨w.heap.size+1,0,none⟩ 8=some (Ft (M9 p i)):=by have:=Hr.rows;rwa [Rf,aC]at this
         obtain⟨X,hX⟩:∃X,X=Yp q 64:=⟨_,rfl⟩;have aX:=D5f q M HW.out hM;rw[aX,←hX]at Mr;have bD:X.length=64:=by rw[hX];exact B5r q 64
         have HX:=Lib.hid hX;clear hX aX;have bN:=Hr.lt;have bE:=lr;go_wp2_with fail;generalize hgv':wr.heap.size=gv at *;obtain⟨wv,aB⟩:∃x,x=C4 (wr.alloc (Obj.cells (Ft (z32 8)).toArray 256)) ⟨gv,0,none⟩ (Ft (M9 p i)):=⟨_,rfl⟩;rw[←aB];have V0:Bk wv gv 256 (Ft (M9 p i)):=by rw[aB];have:=Bk.new wr 256 (Ft (z32 8));rw[hgv']at this;exact this.puts (by simp[aC])
         have R0:Bk wv w.heap.size 35 (c8 (z8 32)):=by rw[aB];exact (Rr.alloc _).putFar (by simp;omega) _
         have H0:Bk wv (w.heap.size+1) 256 (Ft (M9 p i)):=by rw[aB];exact (Hr.alloc _).putFar (by simp;omega) _
         have K0:Bk wv gk 259 (E4 Y0):=by rw[aB];exact (Kr.alloc _).putFar (by simp;omega) _
         have M0:Bk wv (gk+1) 261 (Ft X):=by rw[aB];exact (Mr.alloc _).putFar (by simp;omega) _
         have B0:Below w.heap.size w wv:=by rw[aB];exact C0 (Br.alloc Br.size _) (by simp;omega) _
         have L0:w4.heap.size≤wv.heap.size:=by rw[aB];simp;omega
         have D0:Oz w3.heap.size w4.heap.size w4 wv:=by rw[aB];exact (Dr.alloc (by omega) _).putAt (by simp;omega) _
         clear aB aD Rr Hr Kr Mr Br Dr HW hM hgv' lr wr;go_loopw [123] (fun t wr=>∃k:Nat,k≤64∧t=.int .i64 k∧Bk wr w.heap.size 35 (c8 (z8 32))∧Bk wr (w.heap.size+1) 256 (Ft (M9 p i))∧Bk wr gk 259 (E4 Y0)∧Bk wr (gk+1) 261 (Ft X)∧Bk wr gv 256 (Ft (Ii (M9 p i) X k))∧Below w.heap.size w wr∧w4.heap.size≤wr.heap.size∧Oz w3.heap.size w4.heap.size w4 wr) (fun t _=>64-(intOf t).toNat)
         case atStart=>exact ⟨0,by omega,rfl,R0,H0,K0,M0,V0,B0,L0,D0⟩
         case round=>
          clear R0 H0 K0 M0 V0 B0 L0 D0 wv;obtain⟨k,hk,rfl,Rr,Hr,Kr,Mr,Vr,Br,lr,Dr⟩:=hrel;have aN:=Ng (M9 p i) X aC k;have aF:Ii (M9 p i) X (k+1)=A7z (Ii (M9 p i) X k) (K32 k) (Ca X k):=rfl;have bF:=Lib.hid aF;clear aF;generalize hV:Ii (M9 p i) X k=V at *;have HV:=Lib.hid hV;clear hV;by_cases hlt:k<64
          ·have v0:wr.cell? ⟨gv,0,none⟩=some (.int .u32 (Y9 (Ca V 0))):=Vr.at_ (Bn (by omega));have v1:wr.cell? ⟨gv,1,none⟩=some (.int .u32 (Y9 (Ca V 1))):=Vr.at_ (Bn (by omega));have v2:wr.cell? ⟨gv,2,none⟩=some (.int .u32 (Y9 (Ca V 2))):=Vr.at_ (Bn (by omega));have v3:wr.cell? ⟨gv,3,none⟩=some (.int .u32 (Y9 (Ca V 3))):=Vr.at_ (Bn (by omega));have v4:wr.cell? ⟨gv,4,none⟩=some (.int .u32 (Y9 (Ca V 4))):=Vr.at_ (Bn (by omega));have v5:wr.cell? ⟨gv,5,none⟩=some (.int .u32 (Y9 (Ca V 5))):=Vr.at_ (Bn (by omega));have v6:wr.cell? ⟨gv,6,none⟩=some (.int .u32 (Y9 (Ca V 6))):=Vr.at_ (Bn (by omega));have v7:wr.cell? ⟨gv,7,none⟩=some (.int .u32 (Y9 (Ca V 7))):=Vr.at_ (Bn (by omega));have ek:wr.cell? ⟨gk,k,none⟩=some (.int .u64 (C8 (E8 Y0 k))):=Kr.at_ (P4 (by simp[Y0];omega));have em:wr.cell? ⟨gk+1,k,none⟩=some (.int .u32 (Y9 (Ca X k))):=Mr.at_ (Bn (by omega));have aR:E7 wr ⟨gv,0,none⟩ 8=true:=Vr.can (by simp[aN]);go_wp2_with fail;go_quiet (fail);go_wp2_with fail;go_quiet ((go_at_call 163;first | exact Em (A3n _ _ (by omega)) | exact Dk (A3n _ _ (by omega))));go_wp2_with fail;go_quiet ((go_at_call 163;first | exact Em (A3n _ _ (by omega)) | exact Dk (A3n _ _ (by omega))));go_wp2_with fail;go_roundw;case rel=>
            refine ⟨k+1,by omega,by go_num,(Rr.drewN _).putFar (by simp;omega) _,(Hr.drewN _).putFar (by simp;omega) _,(Kr.drewN _).putFar (by simp;omega) _,(Mr.drewN _).putFar (by simp;omega) _,?_,C0 (N6 Br _) (by simp;omega) _,by simpa using lr,(Dr.drewN _).putAt (by simp;omega) _⟩;rw[bF.out];exact (Vr.drewN _).puts (by simp[aN])
           case measure=>simp[intOf];omega
          ·obtain rfl:k=64:=by omega
           go_wp2_with fail;obtain⟨wo,rfl⟩:∃wo:World,wo=wr:=⟨_,rfl⟩;go_loopw [207] (fun t wr=>∃k:Nat,k≤8∧t=.int .i64 k∧Bk wr w.heap.size 35 (c8 (z8 32))∧Bk wr (w.heap.size+1) 256 (Ft ((Sh.add32 (M9 p i) V).take k++(M9 p i).drop k))∧Bk wr gk 259 (E4 Y0)∧Bk wr (gk+1) 261 (Ft X)∧Bk wr gv 256 (Ft V)∧Below w.heap.size w wr∧w4.heap.size≤wr.heap.size∧Oz w3.heap.size w4.heap.size w4 wr) (fun t _=>8-(intOf t).toNat)
           case atStart=>exact ⟨0,by omega,rfl,Rr,by simpa using Hr,Kr,Mr,Vr,Br,lr,Dr⟩
           case round=>
            clear Rr Hr Kr Mr Vr Br lr Dr wo;obtain⟨k,hk,rfl,Rr,Hr,Kr,Mr,Vr,Br,lr,Dr⟩:=hrel;have bG:(Sh.add32 (M9 p i) V).length=8:=by simp[Sh.add32,aC,aN]
            by_cases hlt:k<8
            ·have eh:wr.cell? ⟨w.heap.size+1,k,none⟩=some (.int .u32 (Y9 (Ca (M9 p i) k))):=by have:=Hr.at_ (Bn (i:=k) (by simp[bG,aC];omega));rwa [C8i _ _ _ (by omega)]at this
             have ev:wr.cell? ⟨gv,k,none⟩=some (.int .u32 (Y9 (Ca V k))):=Vr.at_ (Bn (by omega));have ef:=Hr.frozen k;go_wp2_with fail;refine Cn 8 (by kernel_rfl) (by kernel_rfl) ?_;simp only[List.take_succ_cons,List.take_zero,List.drop_succ_cons,List.drop_zero];repeat (go_big_quiet_step (fail))
             refine wpQuiet_nil ?_;rintro w' ⟨nq,rfl⟩;go_wp2_with fail;go_roundw;case rel=>
              refine ⟨k+1,by omega,by go_num,(Rr.drewN nq).far (by simp) _,?_,(Kr.drewN nq).far (by simp;omega) _,(Mr.drewN nq).far (by simp;omega) _,(Vr.drewN nq).far (by simp;omega) _,(N6 Br nq).setCell (by simp) _,by simpa using lr,(Dr.drewN nq).setCell (by simp;omega) _⟩;rw[←B6g _ _ aC aN k hlt,←Yd];exact (Hr.drewN nq).set_ k _
             case measure=>simp[intOf];omega
            ·obtain rfl:k=8:=by omega
             have aS:Bk wr (w.heap.size+1) 256 (Ft (M9 p (i+1))):=by
              have e:M9 p (i+1)=(Sh.add32 (M9 p i) V).take 8++(M9 p i).drop 8:=by rw[List.take_of_length_le (by omega),List.drop_of_length_le (by omega),List.append_nil];show Xu (M9 p i) (p.drop (64*i))=_;unfold Xu;rw[Hq.out,←HX.out,HV.out]
              rw[e];exact Hr
             clear Hr;go_wp2_with fail;go_roundw;case rel=>
              have bH:64*(i+1)≤p.length:=by have:=aW.out;omega
              refine ⟨i+1,bH,?_,Rr,aS,Kr,⟨X,bD,Mr⟩,Br,lr,Dr⟩;have e:p.drop (64*(i+1))=q.drop 64:=by rw[←Hq.out,List.drop_drop];congr 1
              rw[e];have h1:=aP.cut (k:=64) (cap:=c) (by simpa using hc);have h2:(if c=64 then some (⟨g,o,none⟩:Addr) else (some (⟨g,o,none⟩:Addr)).map (·.add 64))=(if c=64 then some ⟨g,o,none⟩ else some ⟨g,o+64,none⟩):=by simp[Q3]
              rw[h2]at h1;have h3:q.length-64=(q.drop 64).length:=by simp
              rw[h3];exact By.mk_ (by simp;omega) (by simp[maxLen];omega) (by rw[List.map_drop];exact h1)
             case measure=>simp[B2f];omega
    ·have bO:q.length=0:=by omega
     have aY:64*i=p.length:=by have:=aW.out;omega
     have aC:=Gz p i;have aD:D9 wr ⟨w.heap.size+1,0,none⟩ 8=some (Ft (M9 p i)):=by have:=Hr.rows;rwa [Rf,aC]at this
     have bI:=Hr.lt;have aZ:Dj (M9 p i)=Ih ls.flatten:=by unfold Ih;rw[Hp.out,←aY,Nat.mul_div_cancel_left _ (by decide)]
     have HS:=Lib.hid aZ;generalize M9 p i=S at *;clear aZ aP aY Dr Kr Mr;go_wp2_with fail;obtain⟨wv,aB⟩:∃x,x=wr.alloc (Obj.cells (c8 (z8 32)).toArray 35):=⟨_,rfl⟩;rw[←aB];generalize hgo':wr.heap.size=go at *;have O0:Bk wv go 35 (c8 (z8 32)):=by rw[aB,←hgo'];exact Bk.new _ _ _
     have R0:Bk wv w.heap.size 35 (c8 (z8 32)):=by rw[aB];exact Rr.alloc _
     have B0:Below w.heap.size w wv:=by rw[aB];exact Br.alloc (by omega) _
     have l0:wv.heap.size=go+1:=by rw[aB];simp[hgo']
     clear aB aD Rr Hr Br hgo' lr;have bP:w.heap.size+1<go:=bI;go_loopw [220] (fun t wr=>∃k:Nat,k≤8∧t=.int .i64 k∧Bk wr go 35 (c8 ((Dj S).take (4*k)++(z8 32).drop (4*k)))∧Bk wr w.heap.size 35 (c8 (z8 32))∧Below w.heap.size w wr) (fun t _=>8-(intOf t).toNat)
     case atStart=>exact ⟨0,by omega,rfl,by simpa using O0,R0,B0⟩
     case round=>
      clear O0 R0 B0 l0;obtain⟨k,hk,rfl,Or,Rr,Br⟩:=hrel;have aT:=Gi S;have aJ:((Dj S).take (4*k)++(z8 32).drop (4*k)).length=32:=by simp[aT,aC];omega
      by_cases hlt:k<8
      ·have e0:wr.cell? ⟨go,4*k,none⟩=some (.int .u8 (n8 (g8 ((Dj S).take (4*k)++(z8 32).drop (4*k)) (4*k)))):=Or.at_ (Jo (by omega));have e1:wr.cell? ⟨go,4*k+1,none⟩=some (.int .u8 (n8 (g8 ((Dj S).take (4*k)++(z8 32).drop (4*k)) (4*k+1)))):=Or.at_ (Jo (by omega));have e2:wr.cell? ⟨go,4*k+2,none⟩=some (.int .u8 (n8 (g8 ((Dj S).take (4*k)++(z8 32).drop (4*k)) (4*k+2)))):=Or.at_ (Jo (by omega));have e3:wr.cell? ⟨go,4*k+3,none⟩=some (.int .u8 (n8 (g8 ((Dj S).take (4*k)++(z8 32).drop (4*k)) (4*k+3)))):=Or.at_ (Jo (by omega));have f0:=Or.frozen (4*k);have f1:=Or.frozen (4*k+1);have f2:=Or.frozen (4*k+2);have f3:=Or.frozen (4*k+3);clear aJ aT;go_wp2_with fail;go_roundw;case rel=>
        have hZ:(z8 32).length=4*S.length:=by simp[aC]
        refine ⟨k+1,by omega,by go_num,?_,(((Rr.far (by simp;omega) _).far (by simp;omega) _).far (by simp;omega) _).far (by simp;omega) _,(((Br.setCell (by simp;omega) _).setCell (by simp;omega) _).setCell (by simp;omega) _).setCell (by simp;omega) _⟩;have h1:=Pq S (z8 32) hZ k 0 (by omega) (by omega) _ rfl;have h2:=Pq S (z8 32) hZ k 1 (by omega) (by omega) _ rfl;have h3:=Pq S (z8 32) hZ k 2 (by omega) (by omega) _ rfl;have h4:=Pq S (z8 32) hZ k 3 (by omega) (by omega) _ rfl;have h5:=(((Or.set_ (4*k) (.int .u8 (n8 (Ca S k >>> 24).toUInt8))).set_ (4*k+1) (.int .u8 (n8 (Ca S k >>> 16).toUInt8))).set_ (4*k+2) (.int .u8 (n8 (Ca S k >>> 8).toUInt8))).set_ (4*k+3) (.int .u8 (n8 (Ca S k).toUInt8));rw[Kj,Kj,Kj,Kj]at h5;simp only[Nat.add_zero,Nat.zero_add]at h1 h2 h3 h4;rw[h1,h2,h3,h4]at h5;exact h5
       case measure=>simp[intOf];omega
      ·obtain rfl:k=8:=by omega
       have hO:Bk wr go 35 (c8 (Dj S)):=by
        have e:(Dj S).take (4*8)++(z8 32).drop (4*8)=Dj S:=by rw[List.take_of_length_le (by omega),List.drop_of_length_le (by simp),List.append_nil]
        rw[e]at Or;exact Or
       have aH:(Dj S).length=32:=by omega
       have aD:D9 wr ⟨go,0,none⟩ 32=some (c8 (Dj S)):=by have:=hO.rows;rwa [C6,aH]at this
       have aR:E7 wr ⟨w.heap.size,0,none⟩ 32=true:=Rr.can (by simp);clear aJ aT Or hO;go_wp2_with fail;refine bodyPost_ret (C7 rfl _ _ _ _ _ _ rfl (Rr.puts (vs:=c8 (Dj S)) (by simp[aH])) Tryz.underlying35 rfl (by simp[I8,aH])) rfl ⟨?_,C0 Br (Nat.le_refl _) _⟩;rw[←HS.out];rfl
end Go.Proofs.YtdfpoofbgjilgaaGreat
