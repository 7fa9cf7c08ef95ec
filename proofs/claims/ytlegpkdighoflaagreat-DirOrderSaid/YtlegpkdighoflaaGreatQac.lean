/- A part of the proof of DirOrder. -/
import Derived.Deep.Draws
import Derived.WalkKit
import Derived.WalkLawsBesides
import Derived.KernelRfl
import Derived.StillTailTactics
import Derived.BigQuiet
import Derived.Test.YtlegpkdighoflaaGreatQaa
set_option linter.unusedVariables false
set_option linter.unusedSimpArgs false
set_option maxRecDepth 100000
set_option maxHeartbeats 40000000
namespace Go.Proofs.YtlegpkdighoflaaGreat
open Go Go.RowKit Sh
theorem A9l (k:Int) (h : -64<k∧k<0):IntKind.u64.wrap k=(((18446744073709551616+k).toNat:Nat):Int):=by
 simp only[IntKind.wrap,IntKind.bits,IntKind.signed];simp;omega
theorem E1i (k:Int) (h : -32<k∧k<0):bits .and .u64 (IntKind.u64.wrap k) 31=(((32+k).toNat:Nat):Int):=by
 rw[A9l k (by omega)];have:=u64_and_nat (18446744073709551616+k).toNat 31 (by omega) (by omega);rw[nat_mask5]at this;exact this.trans (by omega)
theorem E1u (k:Int) (h : -64<k∧k<0):bits .and .u64 (IntKind.u64.wrap k) 63=(((64+k).toNat:Nat):Int):=by
 rw[A9l k (by omega)];have:=u64_and_nat (18446744073709551616+k).toNat 63 (by omega) (by omega);rw[nat_mask6]at this;exact this.trans (by omega)
theorem C0l (x:UInt32) (k:Int) (s t:Nat) (hs:s<32) (ht:t<32)
 (h1:bits .and .u64 (IntKind.u64.wrap k) 31=(s:Int)) (h2:IntKind.u64.wrap (32-(s:Int))=(t:Int)) (w:World) :
 Calls Tryz.prog 80 #[.int .u32 (Co x),.int .i64 k] w fun e w'=>e=.returned (.int .u32 (Co (x <<< UInt32.ofNat s ||| x >>> UInt32.ofNat t)))∧w'=w:=by
 go_enter Tryz.func80,Tryz.ntmps80;go_wp2;go_ret;exact ⟨rfl,rfl⟩
theorem C2t (x:UInt64) (k:Int) (s t:Nat) (hs:s<64) (ht:t<64)
 (h1:bits .and .u64 (IntKind.u64.wrap k) 63=(s:Int)) (h2:IntKind.u64.wrap (64-(s:Int))=(t:Int)) (w:World) :
 Calls Tryz.prog 123 #[.int .u64 (J0 x),.int .i64 k] w fun e w'=>e=.returned (.int .u64 (J0 (x <<< UInt64.ofNat s ||| x >>> UInt64.ofNat t)))∧w'=w:=by
 go_enter Tryz.func123,Tryz.ntmps123;go_wp2;go_ret;exact ⟨rfl,rfl⟩
theorem Zs (x:UInt32) (k:Int) (h : -32<k∧k<0) (w:World) :
 Calls Tryz.prog 80 #[.int .u32 (Co x),.int .i64 k] w fun e w'=>e=.returned (.int .u32 (Co (Jf x k)))∧w'=w:=
 C0l x k _ _ (by omega) (by omega) (E1i k h) ((IntWalk.u64_in _ (by omega)).trans (by omega)) w
theorem Zz (x:UInt64) (k:Int) (h : -64<k∧k<0) (w:World) :
 Calls Tryz.prog 123 #[.int .u64 (J0 x),.int .i64 k] w fun e w'=>e=.returned (.int .u64 (J0 (Jq x k)))∧w'=w:=
 C2t x k _ _ (by omega) (by omega) (E1u k h) ((IntWalk.u64_in _ (by omega)).trans (by omega)) w
theorem Gx {P:Program} {f:FuncId} {args:Array Value} {w:World} {m:Nat} {v:Value} (h:∀W:World,Calls P f args W fun e w'=>e=.returned v∧w'=W) :
 Calls P f args (w.drewN m) fun e w''=>e=.returned v∧∃m,w''=w.drewN m:=
 (h _).mono fun _ _ ⟨he,hm⟩=>⟨he,m,hm⟩
theorem Fw {P:Program} {f:FuncId} {args:Array Value} {w:World} {m n:Nat} {v:Value} (h:∀W:World,Calls P f args W fun e w'=>e=.returned v∧w'=W) :
 Calls P f args (w.drewN (m+n)) fun e w''=>e=.returned v∧∃k,w''=w.drewN (m+k):=
 (h _).mono fun _ _ ⟨he,hm⟩=>⟨he,n,hm⟩
section
variable {P : Program} {ops : Array Oper} {md : Region.Mode} {C : World → Prop}
def Sk (P:Program) (md:Region.Mode) (ops:Array Oper) (C:World→Prop) (n:Nat) (L:Array Bool→Act→Prop):Nat→Array Bool→Act→Prop
 | 0,listed,a=>L listed a
 | f+1,listed,a=>
  Region.ready md ops listed≠[]∧∀i∈Region.ready md ops listed,i<n∧qOp P ops C i (Sk P md ops C n L f (listed.setIfInBounds i true)) a
theorem Nd {n g:Nat} {L:Array Bool→Act→Prop} {Q':Exit→Act→World→Prop} (hL:∀listed a w,C w→L listed a→wpAny P md ops Q' g listed a w) :
 ∀(f:Nat) (listed:Array Bool) (a:Act) (w:World),C w→Sk P md ops C n L f listed a→wpAny P md ops Q' (f+g) listed a w
 | 0,listed,a,w,hw,h=>by rw[Nat.zero_add];exact hL _ _ _ hw h
 | f+1,listed,a,w,hw,h=>by
  rw[show f+1+g=(f+g)+1 by omega];exact ⟨fun h0=>absurd h0 h.1,fun i hi=>wpOp_of_qOp hw (fun a' w' hw' h'=>Nd hL f _ a' w' hw' h') (h.2 i hi).2⟩
theorem Zc {n i:Nat} {oi:Oper} {v:Value} {L:Array Bool→Act→Prop} (hi:ops[i]?=some oi) (hsel:∀(j:Nat) (o:Oper) cs b,ops[j]?=some o→o.op≠.select cs b)
 (hs:Region.sinkB md ops n=true) (hc:Region.chainB md ops n=true) (hn:n<ops.size) (hin:i<n)
 (hdone:∀listed a,L listed a→∀j∈Region.ready md ops listed,n≤j) :
 ∀(f:Nat) (listed:Array Bool) (a:Act),HeadInv md ops n listed→
  (∀j oj,ops[j]?=some oj→j≠i→listed.getD j true=false→(∀e∈oj.after,Region.binds md e=true→e.on≠i)→oi.apart ops oj=true)→
  i∈Region.ready md ops listed→YieldsIn P ops C oi v a→
  Sk P md ops C n L f (listed.setIfInBounds i true) (a.put oi.dst v)→Sk P md ops C n L (f+1) listed a:=by
 intro f;induction f with
 | zero=>
  intro listed a aE _ hr hy H;have aB:=(mem_ready.1 hr).1;refine ⟨fun h=>(by rw[h]at hr;cases hr),fun j hj=>?_⟩;have aF:j<n:=by
   rcases Nat.lt_or_ge j n with h | h
   ·exact h
   ·exact absurd hj (tail_waits hs hc hn aE _ i rfl hin aB j h)
  refine ⟨aF,?_⟩;by_cases hji:j=i
  ·subst hji;exact hy.qOp hi H
  ·have:=hdone _ _ H j (ready_mono hj hji);omega
 | succ f ih=>
  intro listed a aE aA hr hy H;have aB:=(mem_ready.1 hr).1;refine ⟨fun h=>(by rw[h]at hr;cases hr),fun j hj=>?_⟩;have aF:j<n:=by
   rcases Nat.lt_or_ge j n with h | h
   ·exact h
   ·exact absurd hj (tail_waits hs hc hn aE _ i rfl hin aB j h)
  refine ⟨aF,?_⟩;by_cases hji:j=i
  ·subst hji;exact hy.qOp hi H
  ·have h1:=(H.2 j (ready_mono hj hji)).2;obtain⟨aD,oj,aG,aH⟩:=mem_ready.1 hj;have aI:∀e∈oj.after,Region.binds md e=true→e.on≠i:=fun e he hb heq=>by
    have h1:=aH e he hb;rw[heq,getD_both aB]at h1;cases h1
   have h2:=qOp_put aG (aA j oj aG hji aD aI) (fun cs b=>hsel i oi cs b hi) (fun cs b=>hsel j oj cs b aG) hy h1;have aC:∀k ok,ops[k]?=some ok→k≠i→(listed.setIfInBounds j true).getD k true=false→
    (∀e∈ok.after,Region.binds md e=true→e.on≠i)→oi.apart ops ok=true:=fun k ok hk hki aB hno=>by
    refine aA k ok hk hki ?_ hno;by_cases hjk:j=k
    ·subst hjk;exact aD
    ·rw[getD_set_ne true hjk]at aB;exact aB
   refine qOp_mono (fun a' h3=>ih (listed.setIfInBounds j true) a' (aE.set hj aF) aC (ready_mono hr (Ne.symm hji)) h3.1 ?_) h2;rw[Array.setIfInBounds_comm _ _ hji];exact h3.2
theorem Uv {n g:Nat} {Lq:Act→Prop} (hsel:Region.noSelect ops=true) (hs:Region.sinkB md ops n=true) (hc:Region.chainB md ops n=true) (hn:n<ops.size) :
 ∀(l:List Oper) (k:Nat) (listed:Array Bool) (a:Act),(∀j,j<l.length→l[j]?=ops[k+j]?)→k+l.length=n→HeadInv md ops n listed→
 Region.lexHead md ops g l.length k listed=true→wpQuiet P ops C Lq l a→
 Sk P md ops C n (fun listed' a'=>Region.seqB md ops g n listed'=true∧Lq a') l.length listed a
 | [],k,listed,a,_,hk,_,hB,h=>by
  have:k=n:=by simpa using hk
  subst this;exact ⟨by simpa [Region.lexHead] using hB,h⟩
 | o::l,k,listed,a,hl,hk,inv,hB,h=>by
  have h0:ops[k]?=some o:=by simpa using (hl 0 (by simp)).symm
  simp only[List.length_cons,Region.lexHead,Bool.and_eq_true]at hB;obtain⟨⟨hr,hf⟩,aC⟩:=hB;have aA:k<n:=by simp only[List.length_cons]at hk;omega
  have aB:k∈Region.ready md ops listed:=by simpa using hr
  have aD:qOp P ops C k (wpQuiet P ops C Lq l) a:=by unfold qOp;simp only[h0];exact h
  obtain⟨v,hy,hK⟩:=yieldsIn_of_qOp h0 aD;exact Zc h0 (Region.noSelect_spec hsel) hs hc hn aA (fun listed' a' hL=>seqB_ready hL.1) l.length listed a inv (Region.free_spec h0 hf) aB hy
   (Uv hsel hs hc hn l (k+1) _ _ (fun j hj=>by have:=hl (j+1) (by simp;omega);simpa [Nat.add_assoc,Nat.add_comm 1 j] using this) (by simp only[List.length_cons]at hk;omega) (inv.set aB aA) aC hK)
theorem Tm (C:World→Prop) {id:Nat} {Q:Exit→Act→World→Prop} {a:Act} {w:World} {l:List Oper} (n:Nat) (hm:P.follows .mixedOrders=true) (hB:Region.lexTailB .any l.toArray n=true) (hC:C w.drew)
 (h:wpQuiet P l.toArray C (fun a'=>∀w',C w'→wpList P l.toArray Q (l.drop n) a' w') (l.take n) a):(Code.region id l.toArray true).wp P Q a w:=by
 simp only[Region.lexTailB,Bool.and_eq_true,decide_eq_true_eq]at hB;obtain⟨⟨⟨⟨aB,hn⟩,hs⟩,hc⟩,aC⟩:=hB;have aG:n<l.length:=by simpa using hn
 have aA:(l.take n).length=n:=by simp;omega
 have aE:(l.drop n).length=l.toArray.size-n:=by simp
 have aD:HeadInv .any l.toArray n (Array.replicate l.toArray.size false):=
  ⟨by simp,fun j oj _ hl=>(by rw[getD_replicate_false]at hl;cases hl),fun t _ ht=>getD_in (by simpa using ht) (getD_replicate_false _ _)⟩
 have H:=Uv (md:=.any) (g:=l.toArray.size-n) aB hs hc hn (l.take n) 0 _ a (fun j hj=>by
  have aF:j<n:=by rw[aA]at hj;exact hj
  simp[aF]) (by simpa using aA) aD (by rw[aA];exact aC) h
 refine wp_region_any hm ?_;have:=Nd (Q':=Q) (g:=l.toArray.size-n) (fun listed a' w' hw' hL=>by
  have:=wpAny_of_seq (md:=.any) (Q':=Q) (l.drop n) n listed a' w' (fun j=>by simp[List.getElem?_drop]) (by rw[aE];exact hL.1) (hL.2 w' hw');rwa [aE]at this) _ _ _ _ hC H
 rw[aA,show n+(l.toArray.size-n)=l.toArray.size by omega]at this;exact this
theorem Ay {id:Nat} {Q:Exit→Act→World→Prop} {a:Act} {w:World} {l:List Oper} (n:Nat) (hm:P.follows .mixedOrders=true) (hB:Region.lexTailB .any l.toArray n=true)
 (h:wpQuiet P l.toArray (fun w'=>∃n,w'=w.drewN n) (fun a'=>∀w',(∃n,w'=w.drewN n)→wpList P l.toArray Q (l.drop n) a' w') (l.take n) a):(Code.region id l.toArray true).wp P Q a w:=
 Tm (fun w'=>∃n,w'=w.drewN n) n hm hB ⟨1,rfl⟩ h
end
namespace Sh
theorem Od {α:Type} (M:List α) (k:Nat) (x:α) (h:k<M.length):(M.set k x).take (k+1)=M.take k++[x]:=by
 rw[List.take_add_one,List.take_set_of_le (by omega)];simp[h]
theorem Sr {α:Type} (M W:List α) (d:α) (k j:Nat) (hM:M.take k=W) (hj:j<k):M.getD j d=W.getD j d:=by
 subst hM;simp[hj]
theorem Nj {α:Type} (A B:List α) (k:Nat) (x:α) (hl:A.length=B.length) (hk:k<A.length) (hx:A[k]?=some x) :
 (A.take k++B.drop k).set k x=A.take (k+1)++B.drop (k+1):=by
 have ht:(A.take k).length=k:=by simp;omega
 rw[List.set_append_right _ _ (by omega),ht,Nat.sub_self];have hb:k<B.length:=by omega
 rw[List.drop_eq_getElem_cons hb];simp only[List.set_cons_zero];rw[List.take_add_one,hx];simp
theorem C6x (b:List UInt8) (M:List UInt32) (k:Nat) (hk:k<M.length) (h16:k<16) (h:M.take k=Mx b k):(M.set k (Yd b k)).take (k+1)=Mx b (k+1):=by
 rw[Od _ _ _ hk,h];show _=Mx b k++[if k<16 then Yd b k else _];rw[if_pos h16]
theorem C5k (b:List UInt8) (M:List UInt32) (k:Nat) (hk:k<M.length) (h16:16≤k) (h:M.take k=Mx b k) :
 (M.set k (A1w (Ex M (k-2)) (Ex M (k-7)) (Ex M (k-15)) (Ex M (k-16)))).take (k+1)=Mx b (k+1):=by
 rw[Od _ _ _ hk];show _=Mx b k++[if k<16 then Yd b k else A1w (Ex (Mx b k) (k-2)) (Ex (Mx b k) (k-7)) (Ex (Mx b k) (k-15)) (Ex (Mx b k) (k-16))];rw[if_neg (by omega),h];have e:∀j,j<k→Ex M j=Ex (Mx b k) j:=fun j hj=>Sr M _ 0 k j h hj;rw[e _ (by omega),e _ (by omega),e _ (by omega),e _ (by omega)]
theorem C2m (b:List UInt8) (M:List UInt32) (h:M.take 64=Mx b 64) (hM:M.length=64):M=Mx b 64:=by
 rw[←h,List.take_of_length_le (by omega)]
theorem B5v (h v:List UInt32) (hh:h.length=8) (hv:v.length=8) (k:Nat) (hk:k<8):(add32 h v)[k]?=some (Ex h k+Ex v k):=by
 unfold add32 Ex;rw[List.getElem?_eq_getElem (by simp;omega)];simp[show k<h.length by omega,show k<v.length by omega]
theorem A7j (h v:List UInt32) (hh:h.length=8) (hv:v.length=8) (k:Nat) (hk:k<8) :
 ((add32 h v).take k++h.drop k).set k (Ex h k+Ex v k)=(add32 h v).take (k+1)++h.drop (k+1):=
 Nj _ _ _ _ (by simp[add32];omega) (by simp[add32];omega) (B5v h v hh hv k hk)
theorem B6u (A B:List UInt32) (k:Nat) (hl:k<A.length):Ex (A.take k++B.drop k) k=Ex B k:=by
 unfold Ex;have ht:(A.take k).length=k:=by simp;omega
 rw[List.getD_eq_getElem?_getD,List.getElem?_append_right (by omega),ht];simp
theorem C6l (b:List UInt8) (M:List UInt64) (k:Nat) (hk:k<M.length) (h16:k<16) (h:M.take k=Vo b k):(M.set k (Xf b k)).take (k+1)=Vo b (k+1):=by
 rw[Od _ _ _ hk,h];show _=Vo b k++[if k<16 then Xf b k else _];rw[if_pos h16]
theorem C8b (b:List UInt8) (M:List UInt64) (k:Nat) (hk:k<M.length) (h16:16≤k) (h:M.take k=Vo b k) :
 (M.set k (A1z (E9 M (k-2)) (E9 M (k-7)) (E9 M (k-15)) (E9 M (k-16)))).take (k+1)=Vo b (k+1):=by
 rw[Od _ _ _ hk];show _=Vo b k++[if k<16 then Xf b k else A1z (E9 (Vo b k) (k-2)) (E9 (Vo b k) (k-7)) (E9 (Vo b k) (k-15)) (E9 (Vo b k) (k-16))];rw[if_neg (by omega),h];have e:∀j,j<k→E9 M j=E9 (Vo b k) j:=fun j hj=>Sr M _ 0 k j h hj;rw[e _ (by omega),e _ (by omega),e _ (by omega),e _ (by omega)]
theorem C3b (b:List UInt8) (M:List UInt64) (h:M.take 80=Vo b 80) (hM:M.length=80):M=Vo b 80:=by
 rw[←h,List.take_of_length_le (by omega)]
theorem B8a (h v:List UInt64) (hh:h.length=8) (hv:v.length=8) (k:Nat) (hk:k<8):(add64 h v)[k]?=some (E9 h k+E9 v k):=by
 unfold add64 E9;rw[List.getElem?_eq_getElem (by simp;omega)];simp[show k<h.length by omega,show k<v.length by omega]
theorem A8f (h v:List UInt64) (hh:h.length=8) (hv:v.length=8) (k:Nat) (hk:k<8) :
 ((add64 h v).take k++h.drop k).set k (E9 h k+E9 v k)=(add64 h v).take (k+1)++h.drop (k+1):=
 Nj _ _ _ _ (by simp[add64];omega) (by simp[add64];omega) (B8a h v hh hv k hk)
theorem B4n (A B:List UInt64) (k:Nat) (hl:k<A.length):E9 (A.take k++B.drop k) k=E9 B k:=by
 unfold E9;have ht:(A.take k).length=k:=by simp;omega
 rw[List.getD_eq_getElem?_getD,List.getElem?_append_right (by omega),ht];simp
theorem B5x (S:List UInt32):∀(k j:Nat),k<S.length→j<4→(Fx S)[4*k+j]?=(Sq (Ex S k))[j]?:=by
 unfold Fx;induction S with
 | nil=>intro k j hk;simp at hk
 | cons x S ih=>
  intro k j hk hj;have hb:(Sq x).length=4:=rfl;rw[List.flatMap_cons];cases k with
  | zero=>
   rw[List.getElem?_append_left (by omega)];simp[Ex]
  | succ k=>
   rw[List.getElem?_append_right (by omega),hb];have:=ih k j (by simpa using hk) hj;rw[show 4*(k+1)+j-4=4*k+j by omega,this];simp[Ex]
theorem Pk (S:List UInt32) (Z:List UInt8) (hZ:Z.length=4*S.length) (k j:Nat) (hk:k<S.length) (hj:j<4) (x:UInt8) (hx:(Sq (Ex S k))[j]?=some x) :
 ((Fx S).take (4*k+j)++Z.drop (4*k+j)).set (4*k+j) x=(Fx S).take (4*k+(j+1))++Z.drop (4*k+(j+1)):=
 Nj _ _ _ _ (by rw[Iq,hZ]) (by rw[Iq];omega) (by rw[B5x S k j hk hj,hx])
theorem B5b (S:List UInt64):∀(k j:Nat),k<S.length→j<8→(Gv S)[8*k+j]?=(Mj (E9 S k))[j]?:=by
 unfold Gv;induction S with
 | nil=>intro k j hk;simp at hk
 | cons x S ih=>
  intro k j hk hj;have hb:(Mj x).length=8:=rfl;rw[List.flatMap_cons];cases k with
  | zero=>
   rw[List.getElem?_append_left (by omega)];simp[E9]
  | succ k=>
   rw[List.getElem?_append_right (by omega),hb];have:=ih k j (by simpa using hk) hj;rw[show 8*(k+1)+j-8=8*k+j by omega,this];simp[E9]
theorem B0w (S:List UInt64) (Z:List UInt8) (hZ:Z.length=8*S.length) (k j:Nat) (hk:k<S.length) (hj:j<8) (x:UInt8) (hx:(Mj (E9 S k))[j]?=some x) :
 ((Gv S).take (8*k+j)++Z.drop (8*k+j)).set (8*k+j) x=(Gv S).take (8*k+(j+1))++Z.drop (8*k+(j+1)):=
 Nj _ _ _ _ (by rw[It,hZ]) (by rw[It];omega) (by rw[B5b S k j hk hj,hx])
end Sh
end Go.Proofs.YtlegpkdighoflaaGreat
