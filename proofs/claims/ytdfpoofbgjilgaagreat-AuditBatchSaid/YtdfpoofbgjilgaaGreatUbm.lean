/- A part of the proof of AuditBatch. -/
import Derived.Lib.Bytealg
import Derived.Maps.Views
import Derived.Test.YtdfpoofbgjilgaaGreatUbj
import Derived.Test.YtdfpoofbgjilgaaGreatUbl
set_option linter.unusedVariables false
set_option linter.unusedSimpArgs false
set_option maxRecDepth 100000
set_option maxHeartbeats 40000000
namespace Go.Proofs.YtdfpoofbgjilgaaGreat
open Go Go.RowKit Sh
def blt (a b:List UInt8):Prop:=Lib.compareBytes a b<0
theorem Ta {a b:UInt8} {ar bs:List UInt8}:blt (a::ar) (b::bs)↔a<b∨(a=b∧blt ar bs):=by
 unfold blt;conv=>lhs;unfold Lib.compareBytes
 by_cases h:a<b
 ·simp[h]
 ·by_cases h2:b<a
  ·have:a≠b:=by rintro rfl;exact h h2
   simp[h,h2,this]
  ·have:a=b:=UInt8.le_antisymm (UInt8.not_lt.1 h2) (UInt8.not_lt.1 h);simp[this]
theorem C0i:∀a:List UInt8,¬ blt a a
 | []=>by simp[blt,Lib.compareBytes]
 | a::ar=>by
  rw[Ta];rintro (h | h)
  ·exact UInt8.lt_irrefl _ h
  ·exact C0i ar h.2
theorem A3u:∀ {a b c:List UInt8},blt a b→blt b c→blt a c
 | [],[],_,h,_=>absurd h (C0i _)
 | [],_::_,[],_,h=>by simp[blt,Lib.compareBytes]at h
 | [],_::_,_::_,_,_=>by simp[blt,Lib.compareBytes]
 | _::_,[],_,h,_=>by simp[blt,Lib.compareBytes]at h
 | _::_,_::_,[],_,h=>by simp[blt,Lib.compareBytes]at h
 | a::ar,b::bs,c::cs,h,k=>by
  rw[Ta]at h k ⊢;rcases h with h | ⟨rfl,h⟩
  ·rcases k with k | ⟨rfl,k⟩
   ·exact .inl (UInt8.lt_trans h k)
   ·exact .inl h
  ·rcases k with k | ⟨rfl,k⟩
   ·exact .inl k
   ·exact .inr ⟨rfl,A3u h k⟩
theorem A3x:∀a b:List UInt8,blt a b∨a=b∨blt b a
 | [],[]=>.inr (.inl rfl)
 | [],_::_=>by simp[blt,Lib.compareBytes]
 | _::_,[]=>by simp[blt,Lib.compareBytes]
 | a::ar,b::bs=>by
  rw[Ta,Ta];rcases Nat.lt_trichotomy a.toNat b.toNat with h | h | h
  ·exact .inl (.inl h)
  ·have e:a=b:=UInt8.toNat_inj.1 h;subst e;rcases A3x ar bs with h | rfl | h
   ·exact .inl (.inr ⟨rfl,h⟩)
   ·exact .inr (.inl rfl)
   ·exact .inr (.inr (.inr ⟨rfl,h⟩))
  ·exact .inr (.inr (.inl h))
structure Sink (l A : List (List UInt8)) (x : List UInt8) (B C : List (List UInt8)) : Prop where
 perm:(A++x::(B++C)).Perm l
 srt:(A++B).Pairwise blt
 low:∀b∈B,blt x b
theorem Sink.down {l A:List (List UInt8)} {a x:List UInt8} {B C:List (List UInt8)} (h:Sink l (A++[a]) x B C) (hl:blt x a):Sink l A x (a::B) C:=by
 refine ⟨?_,by simpa using h.srt,?_⟩
 ·refine List.Perm.trans ?_ h.perm;rw[List.append_assoc];exact List.Perm.append_left _ (List.Perm.swap _ _ _)
 ·intro b hb;rcases List.mem_cons.1 hb with rfl | hb
  ·exact hl
  ·exact h.low b hb
theorem Sink.stop {l A:List (List UInt8)} {x:List UInt8} {B C:List (List UInt8)} (h:Sink l A x B C) (hA:∀a∈A,blt a x):(A++x::B).Pairwise blt:=by
 have hs:=h.srt;rw[List.pairwise_append]at hs ⊢;refine ⟨hs.1,List.pairwise_cons.2 ⟨h.low,hs.2.1⟩,fun a ha b hb=>?_⟩;rcases List.mem_cons.1 hb with rfl | hb
 ·exact hA a ha
 ·exact hs.2.2 a ha b hb
theorem Sink.round {l A:List (List UInt8)} {x:List UInt8} {B C:List (List UInt8)} (h:Sink l A x B C) (hA:∀a∈A,blt a x) {i:Nat} (hi:A.length+B.length=i):((A++x::(B++C)).take (i+1)).Pairwise blt:=by
 have e:A++x::(B++C)=(A++x::B)++C:=by simp
 rw[e,List.take_left' (by simp;omega)];exact h.stop hA
theorem Sink.above {l A:List (List UInt8)} {a x:List UInt8} {B C:List (List UInt8)} (h:Sink l (A++[a]) x B C) (hl:¬ blt x a) (hn:l.Nodup):∀b∈A++[a],blt b x:=by
 have aA:=h.perm.nodup_iff.2 hn;have hx:a≠x:=by rintro rfl;rw[List.append_assoc,List.nodup_append]at aA;have:=aA.2.1;simp at this
 have ha:blt a x:=by
  rcases A3x x a with h1 | h1 | h1
  ·exact absurd h1 hl
  ·exact absurd h1.symm hx
  ·exact h1
 have hs:=(List.pairwise_append.1 h.srt).1;intro b hb;rcases List.mem_append.1 hb with hb | hb
 ·exact A3u ((List.pairwise_append.1 hs).2.2 b hb a (by simp)) ha
 ·obtain rfl:=List.mem_singleton.1 hb;exact ha
section
def KB (w:World) (g:Nat) (ks:List (List UInt8)) (tl:List Value):Prop:=(∀k∈ks,k.length=32)∧Bk w g 35 (c8 ks.flatten++tl)
theorem A4v:∀ {ks:List (List UInt8)} {i:Nat} {k:List UInt8},(∀x∈ks,x.length=32)→ks[i]?=some k→(ks.flatten.drop (i*32)).take 32=k
 | [],i,k,_,h=>by simp at h
 | x::ks,0,k,hl,h=>by
  have hx:=hl x (by simp);simp at h;subst h;simp[hx]
 | x::ks,i+1,k,hl,h=>by
  have hx:=hl x (by simp);rw[List.flatten_cons,show (i+1)*32=x.length+i*32 by omega,List.drop_length_add_append];exact A4v (fun y hy=>hl y (List.mem_cons_of_mem _ hy)) (by simpa using h)
theorem B0v:∀ {ks:List (List UInt8)} {i:Nat} {k:List UInt8},(∀x∈ks,x.length=32)→i<ks.length→(ks.set i k).flatten=ks.flatten.take (i*32)++k++ks.flatten.drop (i*32+32)
 | [],i,k,_,h=>by simp at h
 | x::ks,0,k,hl,h=>by
  have hx:=hl x (by simp);simp[hx]
 | x::ks,i+1,k,hl,h=>by
  have hx:=hl x (by simp);have ih:=B0v (ks:=ks) (i:=i) (k:=k) (fun y hy=>hl y (List.mem_cons_of_mem _ hy)) (by simpa using h);rw[List.set_cons_succ,List.flatten_cons,ih,List.flatten_cons];rw[show (i+1)*32=x.length+i*32 by omega,show x.length+i*32+32=x.length+(i*32+32) by omega,List.take_length_add_append,List.drop_length_add_append];simp
theorem Cd {ks:List (List UInt8)} (hl:∀x∈ks,x.length=32):ks.flatten.length=ks.length*32:=by
 induction ks with
 | nil=>rfl
 | cons x ks ih=>
  rw[List.flatten_cons,List.length_append,hl x (by simp),ih fun y hy=>hl y (List.mem_cons_of_mem _ hy),List.length_cons];omega
section
variable {w w' : World} {g : Nat} {ks : List (List UInt8)} {tl : List Value}
theorem KB.lt (h:KB w g ks tl):g<w.heap.size:=h.2.lt
theorem KB.below (h:KB w g ks tl) (hb:Below w.heap.size w w'):KB w' g ks tl:=⟨h.1,h.2.below hb h.2.lt⟩
theorem KB.row (h:KB w g ks tl) {i:Nat} {k:List UInt8} (hk:ks[i]?=some k):C6 w ⟨g,i*32,none⟩ 32=some (c8 k):=by
 have hi:i<ks.length:=(List.getElem?_eq_some_iff.1 hk).1;have hl:=Cd h.1;rw[h.2.row (o:=i*32) (n:=32) (by simp[hl];omega)];rw[List.drop_append_of_le_length (by simp[hl];omega),List.take_append_of_le_length (by simp[hl];omega)];unfold c8;rw[←List.map_drop,←List.map_take,A4v h.1 hk]
theorem KB.can (h:KB w g ks tl) {i:Nat} (hi:i<ks.length):E4 w ⟨g,i*32,none⟩ 32=true:=h.2.can (by simp[Cd h.1];omega)
theorem KB.put (h:KB w g ks tl) {i:Nat} (hi:i<ks.length) {k:List UInt8} (hk:k.length=32):KB (C5 w ⟨g,i*32,none⟩ (c8 k)) g (ks.set i k) tl:=by
 have hl:=Cd h.1;refine ⟨fun x hx=>?_,?_⟩
 ·rcases List.mem_or_eq_of_mem_set hx with hx | rfl
  ·exact h.1 x hx
  ·exact hk
 ·have:=h.2.put (o:=i*32) (vs:=c8 k) (by simp[hl,hk];omega);have e:(c8 ks.flatten++tl).take (i*32)++c8 k++(c8 ks.flatten++tl).drop (i*32+(c8 k).length)=c8 (ks.set i k).flatten++tl:=by rw[B0v h.1 hi,List.take_append_of_le_length (by simp[hl];omega),List.drop_append_of_le_length (by simp[hl,hk];omega)];simp[c8,hk]
  rw[e]at this;exact this
end
theorem B2g (x y:List UInt8) (hx:x.length=32) (hy:y.length=32) (w:World):Calls Tryz.prog 43 #[A8 x,A8 y] w fun e w'=>e=.returned (.int .i64 (Lib.compareBytes x y))∧Below w.heap.size w w':=by
 obtain⟨W0,aA⟩:∃W,W=(w.alloc (Obj.cells (c8 x).toArray 35)).alloc (Obj.cells (c8 y).toArray 35):=⟨_,rfl⟩;have B0:Below w.heap.size w W0:=by rw[aA];exact ((Below.refl _ _).alloc (Nat.le_refl _) _).alloc (by simp) _
 have kX:Bk W0 w.heap.size 35 (c8 x):=by rw[aA];exact (Bk.new w 35 (c8 x)).alloc _
 have kY:Bk W0 (w.heap.size+1) 35 (c8 y):=by rw[aA];simpa using Bk.new (w.alloc (Obj.cells (c8 x).toArray 35)) 35 (c8 y)
 go_enter Tryz.func43,Tryz.ntmps43;go_wp2_with fail;rw[←aA];clear aA;have S1:Below W0.heap.size W0 W0.drew:=(Below.refl _ _).drew;have aB:=Lib.hid (Bk.byAll kX.drew hx (by decide));have aC:=Lib.hid (Bk.byAll kY.drew hy (by decide));refine D9 (fun _=>True) (by kernel_rfl) ?_;refine C4 (A:=?aF) [0,1] (by kernel_rfl) (by kernel_rfl) rfl (by kernel_rfl) (by kernel_rfl) trivial (h:=fun W hW=>?aD) (hr:=?aG);case aD=>
  simp only[pick,List.getElem?_cons_zero,List.getElem?_cons_succ];repeat (go_big_quiet_step (fail))
  refine wpQuiet_nil ?_;rfl
 refine C2 2 (by kernel_rfl) (by rfl) (by rfl) (fun Q' hQ'=>?_);dsimp only[D8];go_wp2_with fail;refine (Tq _ _ x y W0.drew aB.out aC.out).mono ?_;rintro e w1 ⟨rfl,aE⟩;rw[aE];go_wp2_with fail;refine hQ' _ _ trivial ?_;clear hQ';refine C2 3 (by kernel_rfl) (by rfl) (by rfl) (fun Q' hQ'=>?_);dsimp only[D8];go_wp2_with fail;refine hQ' _ _ trivial ?_;clear hQ';refine E5 (by kernel_rfl) ?_;go_wp2_with fail;go_ret;exact ⟨rfl,C0 B0 S1 B0.size⟩
theorem B6a (g c n:Nat) (ks:List (List UInt8)) (tl:List Value) (w:World) (hk:KB w g ks tl) (hn:ks.length=n) (hm:n≤12) (nd:ks.Nodup) :
 Calls Tryz.prog 136 #[.slice (some ⟨g,0,none⟩) n c,.int .i64 0,.int .i64 (n:Int),.func (.func 43) #[] #[]] w fun x w'=>x=.returned (.tuple #[])∧∃l,KB w' g l tl∧l.Perm ks∧l.Pairwise blt∧w.grownBy w' (some g):=by
 have HK:=Lib.hid hk;have HN:=Lib.hid hn;have bK:=hk.lt;clear hk hn;go_enter Tryz.func136,Tryz.ntmps136;go_wp2_with fail;go_loopw [8] (fun iv wr=>∃(i:Nat) (l:List (List UInt8)),iv=.int .i64 (i:Int)∧1≤i∧i≤13∧KB wr g l tl∧l.Perm ks∧(l.take i).Pairwise blt∧w.grownBy wr (some g)) (fun iv _=>n-(intOf iv).toNat)
 case atStart=>exact ⟨1,ks,rfl,Nat.le_refl _,by omega,HK.out,List.Perm.refl _,by cases ks<;>simp,⟨rfl,rfl,rfl,Nat.le_refl _,fun _ _ _=>rfl⟩⟩
 case round=>
  obtain⟨i,l,rfl,h1,bL,K,hp,hs,hg⟩:=hrel;have aE:l.length=n:=by rw[hp.length_eq];exact HN.out
  by_cases hi:i<n
  ·have hid:decide ((i:Int)<(n:Int))=true:=decide_eq_true (by omega);have aF:decide (i<n)=true:=decide_eq_true hi;have HP:=Lib.hid hp;have HS:=Lib.hid hs;have HL:=Lib.hid aE;clear hp hs aE;go_wp2_with fail;go_loopw [9] (fun jv w2=>∃(A:List (List UInt8)) (x:List UInt8) (B C:List (List UInt8)),jv=.int .i64 (A.length:Int)∧A.length+B.length=i∧KB w2 g (A++x::(B++C)) tl∧Sink ks A x B C∧w.grownBy w2 (some g)) (fun jv _=>(intOf jv).toNat)
   case atStart=>
    have aN:i<l.length:=by rw[HL.out];exact hi
    refine ⟨l.take i,l[i],[],l.drop (i+1),by simp[List.length_take];omega,by simp[List.length_take];omega,?_,⟨?_,by simpa using HS.out,by simp⟩,hg⟩
    ·rw[List.nil_append,←List.drop_eq_getElem_cons aN,List.take_append_drop];exact K
    ·rw[List.nil_append,←List.drop_eq_getElem_cons aN,List.take_append_drop];exact HP.out
   case round=>
    obtain⟨A,x,B,C,rfl,aO,K2,aP,aQ⟩:=hrel;have aB:=Lib.hid aP;have aD:=Lib.hid aO;clear aP aO K HP HS HL hg;rcases List.eq_nil_or_concat A with rfl | ⟨A',a,rfl⟩
    ·have bC:decide ((0:Int)<((([]:List (List UInt8)).length:Nat):Int))=false:=rfl;have aG:decide (0<([]:List (List UInt8)).length)=false:=rfl;go_wp2_with fail;go_quiet (fail);go_wp2_with fail;go_roundw;case rel=>exact ⟨i+1,_,rfl,by omega,by omega,K2.below (Q9 (Below.refl _ _) _),aB.out.perm,aB.out.round (by simp) aD.out,aQ.trans (E9 (Q9 (Below.refl _ _) _) g)⟩
     case measure=>simp only[intOf];omega
    ·rw[List.concat_eq_append]at *;obtain⟨j,hj⟩:∃j,j=A'.length:=⟨_,rfl⟩;have aR:(A'++[a]).length=j+1:=by rw[hj];simp
     have bC:decide ((0:Int)<((j+1:Nat):Int))=true:=decide_eq_true (by omega);have aG:decide (0<j+1)=true:=decide_eq_true (by omega);have HJ:=Lib.hid hj;have bM:j+1≤i:=by have:=aD.out;omega
     have bN:j+1<n:=by omega
     have bO:j<n:=by omega
     have bD:wrap64 (((j+1:Nat):Int)-1)=(j:Int):=by unfold wrap64;omega
     rw[aR];clear hj aR;go_wp2_with fail;have S1:Below wr.heap.size wr wr.drew:=(Below.refl _ _).drew;have K3:=K2.below S1;refine D9 (fun W=>KB W g (A'++[a]++x::(B++C)) tl) (by kernel_rfl) ?_;refine C4 (A:=?bP) [0,1,2,3,4,5,6,7,8,9,10,11,12,13] (by kernel_rfl) (by kernel_rfl) rfl (by kernel_rfl) (by kernel_rfl) K3 (h:=fun W hW=>?bE) (hr:=?bQ);case bE=>
      have f1:C6 W ⟨g,(j+1)*32,none⟩ 32=some (c8 x):=hW.row (by rw[HJ.out];simp);have f2:C6 W ⟨g,j*32,none⟩ 32=some (c8 a):=hW.row (by rw[HJ.out];simp);simp only[pick,List.getElem?_cons_zero,List.getElem?_cons_succ];repeat (go_big_quiet_step (fail))
      refine wpQuiet_nil ?_;rfl
     have aS:x.length=32:=K2.1 x (by simp);have aT:a.length=32:=K2.1 a (by simp);have aU:=aQ.trans (E9 S1 g);obtain⟨cv,aH⟩:∃cv,cv=Lib.compareBytes x a:=⟨_,rfl⟩;refine C2 14 (by kernel_rfl) (by rfl) (by rfl) (fun Q' hQ'=>?_);dsimp only[D8];have aV:=Lib.hid hQ';clear hQ';go_wp2_with fail;refine (B2g x a aS aT wr.drew).mono ?_;rintro y w4 ⟨rfl,b4⟩;rw[←aH];have K4:=K3.below b4;have aI:=aU.trans (E9 b4 g);have HC:=Lib.hid aH;clear aH b4 S1 aU K3;go_wp2_with fail;refine aV.out _ _ K4 ?_;clear aV;refine C2 15 (by kernel_rfl) (by rfl) (by rfl) (fun Q' hQ'=>?_);dsimp only[D8];go_wp2_with fail;refine hQ' _ _ K4 ?_;clear hQ';refine C2 16 (by kernel_rfl) (by rfl) (by rfl) (fun Q' hQ'=>?_);dsimp only[D8];go_wp2_with fail;refine hQ' _ _ K4 ?_;clear hQ';refine E5 (by kernel_rfl) ?_;obtain⟨bv,aJ⟩:∃b,b=decide (cv<0):=⟨_,rfl⟩;rw[←aJ];have HB:Hid (bv=true↔blt x a):=Lib.hid (by unfold blt;rw[←HC.out,aJ];simp);clear aJ;cases bv with
     | true=>
      go_wp2_with fail;have S5:Below w4.heap.size w4 w4.drew:=(Below.refl _ _).drew;have K5:=K4.below S5;refine D9 (fun _=>True) (by kernel_rfl) ?_;refine C4 (A:=?bR) [0,1,2,3,4,5,6,7,8,10,11,12] (by kernel_rfl) (by kernel_rfl) rfl (by kernel_rfl) (by kernel_rfl) trivial (h:=fun W hW=>?bF) (hr:=?bS);case bF=>
       simp only[pick,List.getElem?_cons_zero,List.getElem?_cons_succ];repeat (go_big_quiet_step (fail))
       refine wpQuiet_nil ?_;rfl
      refine Bn [zv 9 46 (A8 a),zv 13 50 (A8 x)] (by kernel_rfl) (fun _ _=>trivial) ?mo ?st ?re;case mo=>exact List.forall_mem_cons.2 ⟨V8 _ _ _,List.forall_mem_cons.2 ⟨V8 _ _ _,fun _ h=>by cases h⟩⟩
      case st=>
       refine List.forall_mem_cons.2 ⟨?s9,List.forall_mem_cons.2 ⟨?bG,fun _ h=>by cases h⟩⟩;case s9=>
        intro o ho us W hW hp Q' hQ';obtain rfl:=Option.some.inj ho;clear hp ho;have f2:C6 W ⟨g,j*32,none⟩ 32=some (c8 a):=(K5.below hW).row (by rw[HJ.out];simp);rw[C7]at hQ' ⊢;dsimp only[D8,H9,List.foldl,zv]at hQ' ⊢;simp only[List.set_cons_succ,List.set_cons_zero];go_wp2_with fail;exact F0 (hQ' _ _ (Below.refl _ _) rfl (fun h=>by cases h)) (by kernel_rfl)
       case bG=>intro o ho us W hW hp Q' hQ';obtain rfl:=Option.some.inj ho;clear hp ho;have f1:C6 W ⟨g,(j+1)*32,none⟩ 32=some (c8 x):=(K5.below hW).row (by rw[HJ.out];simp);rw[C7]at hQ' ⊢;dsimp only[D8,H9,List.foldl,zv]at hQ' ⊢;simp only[List.set_cons_succ,List.set_cons_zero];go_wp2_with fail;exact F0 (hQ' _ _ (Below.refl _ _) rfl (fun h=>by cases h)) (by kernel_rfl)
      intro vs w8 b8 aK aL bH;have aW:vs 9=A8 a:=aK _ (List.mem_of_getElem? (i:=0) rfl);have aX:vs 13=A8 x:=aK _ (List.mem_of_getElem? (i:=1) rfl);rw[C7];dsimp only[H9,List.foldl,zv];simp only[List.set_cons_succ,List.set_cons_zero];rw[aW,aX];have K8:=K5.below b8;have aY:=(aI.trans (E9 S5 g)).trans (E9 b8 g);clear aK aL bH aW aX K5 K4 aI b8 S5;refine C4 (A:=?bT) [14] (by kernel_rfl) (by kernel_rfl) rfl (by kernel_rfl) (by kernel_rfl) trivial (h:=fun W hW=>?bI) (hr:=?bU);case bI=>
       simp only[List.append_eq,List.nil_append,List.cons_append,pick,List.getElem?_cons_zero,List.getElem?_cons_succ];repeat (go_big_quiet_step (fail))
       refine wpQuiet_nil ?_;rfl
      have aA:(A'++[a]++x::(B++C)).length=j+(2+(B++C).length):=by rw[HJ.out];simp;omega
      have bX:E4 w8 ⟨g,(j+1)*32,none⟩ 32=true:=K8.can (by rw[aA];omega);have K9:=K8.put (i:=j+1) (by rw[aA];omega) aT;have aZ:=aY.trans (A0l w8 g ((j+1)*32) (c8 a));have bY:=K9.can (i:=j) (by rw[List.length_set,aA];omega);have bA:=K9.put (i:=j) (by rw[List.length_set,aA];omega) aS;have aM:=aZ.trans (A0l _ g (j*32) (c8 x));have aC:((A'++[a]++x::(B++C)).set (j+1) a).set j x=A'++x::(a::B++C):=by rw[HJ.out,List.append_assoc,List.set_append_right _ _ (by omega),List.set_append_right _ _ (by omega)];simp
      rw[aC]at bA;clear K9 K8 aY aZ aC aA;refine C2 15 (by kernel_rfl) (by rfl) (by rfl) (fun Q' hQ'=>?_);dsimp only[D8];go_wp2_with fail;refine hQ' _ _ trivial ?_;clear hQ';refine C4 (A:=?bZ) [16] (by kernel_rfl) (by kernel_rfl) rfl (by kernel_rfl) (by kernel_rfl) trivial (h:=fun W hW=>?bJ) (hr:=?cA);case bJ=>
       simp only[List.append_eq,List.nil_append,List.cons_append,pick,List.getElem?_cons_zero,List.getElem?_cons_succ];repeat (go_big_quiet_step (fail))
       refine wpQuiet_nil ?_;rfl
      refine C2 17 (by kernel_rfl) (by rfl) (by rfl) (fun Q' hQ'=>?_);dsimp only[D8];go_wp2_with fail;refine hQ' _ _ trivial ?_;clear hQ';refine E5 (by kernel_rfl) ?_;go_wp2_with fail;go_roundw;case rel=>exact ⟨A',x,a::B,C,by rw[HJ.out],by have:=aD.out;have:=HJ.out;simp only[List.length_append,List.length_cons,List.length_nil]at *;omega,bA,aB.out.down (HB.out.1 trivial),aM⟩
      case measure=>simp only[intOf];omega
     | false=>
      go_wp2_with fail;go_roundw;case rel=>exact ⟨i+1,_,rfl,by omega,by omega,K4,aB.out.perm,aB.out.round (aB.out.above (fun h=>by have:=HB.out.2 h;cases this) nd) aD.out,aI⟩
      case measure=>simp only[intOf];omega
  ·have hid:decide ((i:Int)<(n:Int))=false:=decide_eq_false (by omega);have aF:decide (i<n)=false:=decide_eq_false hi;have bB:l.take i=l:=List.take_of_length_le (by omega);rw[bB]at hs;have HP:=Lib.hid hp;have HS:=Lib.hid hs;clear hp hs aE bB;go_wp2_with fail
   (try simp only[Exit.inBlock,Exit.then])
   exact bodyPost_end (results_none rfl _ _ _) rfl ⟨rfl,l,K,HP.out,HS.out,hg⟩
theorem B7o (A:Option Addr) (c:Nat) (w:World):Calls Tryz.prog 136 #[.slice A 0 c,.int .i64 0,.int .i64 0,.func (.func 43) #[] #[]] w fun x w'=>x=.returned (.tuple #[])∧w'=w:=by
 go_enter Tryz.func136,Tryz.ntmps136;go_wp2_with fail;refine wp_loop_rounds 1 ?_;rw[rounds_succ];go_wp2_with fail;exact bodyPost_end (results_none rfl _ _ _) rfl ⟨rfl,rfl⟩
theorem B7q (base:Nat) (v:Value) (ks:List (List UInt8)) (w:World) (h:OwnK w base v ks) (hm:ks.length≤12) (nd:ks.Nodup) :
 Calls Tryz.prog 136 #[v,.int .i64 0,.int .i64 (ks.length:Int),.func (.func 43) #[] #[]] w fun x w'=>x=.returned (.tuple #[])∧∃l,OwnK w' base v l∧l.Perm ks∧l.Pairwise blt∧w.grownBy w' v.ownBlock:=by
 rcases h.2.2 with ⟨rfl,hn⟩ | ⟨g,cap,cur,rfl,hb,hh,h1,h2,h3,h4⟩
 ·have aA:ks=[]:=List.eq_nil_of_length_eq_zero hn;subst aA;refine (B7o none 0 w).mono ?_;rintro x w' ⟨rfl,rfl⟩;exact ⟨rfl,[],h,List.Perm.refl _,List.Pairwise.nil,⟨rfl,rfl,rfl,Nat.le_refl _,fun _ _ _=>rfl⟩⟩
 ·have hk:KB w g ks (cur.toList.drop (ks.length*32)):=⟨h.1,by unfold Bk;rw[hh,←h4,List.take_append_drop]⟩;refine (B6a g cap ks.length ks _ w hk rfl hm nd).mono ?_;rintro x w' ⟨rfl,l,k,p,s,hg⟩;have hl:=p.length_eq;refine ⟨rfl,l,⟨k.1,by simp[Cd k.1],.inr ⟨g,cap,(c8 l.flatten++cur.toList.drop (ks.length*32)).toArray,by rw[hl],hb,k.2,by rw[hl];exact h1,h2,?_,?_⟩⟩,p,s,hg⟩
  ·have e:=congrArg List.length h4;simp only[List.length_take,Array.length_toList,C3,Cd h.1]at e;simp only[List.size_toArray,List.length_append,C3,Cd k.1,List.length_drop,Array.length_toList];omega
  ·rw[List.take_append_of_le_length (by simp[Cd k.1]),List.take_of_length_le (by simp[Cd k.1])]
theorem D1x (base:Nat) (v:Value) (ks:List (List UInt8)) (n:Nat) (m:Int) (w:World) (h:OwnK w base v ks) (hn:ks.length=n) (hm:n≤12) (nd:ks.Nodup) :
 Calls Tryz.prog 89 #[v,.int .i64 0,.int .i64 (n:Int),.int .i64 m,.func (.func 43) #[] #[]] w fun x w'=>x=.returned (.tuple #[])∧∃l,OwnK w' base v l∧l.Perm ks∧l.Pairwise blt∧w.grownBy w' v.ownBlock:=by
 have hc:=Lib.hid (B7q base v ks w h (by omega) nd);rw[hn]at hc;obtain⟨A,c,rfl,-,-⟩:=h.form;rw[hn]at hc ⊢;have aA:decide ((n:Int)≤12)=true:=decide_eq_true (by omega);clear h hn;go_enter Tryz.func89,Tryz.ntmps89;go_wp2_with fail;refine wp_loop_rounds 1 ?_;rw[rounds_succ];go_wp2_with fail;refine hc.out.mono ?_;rintro x w' ⟨rfl,hx⟩;go_wp2_with fail;exact bodyPost_ret (results_none rfl _ _ _) rfl ⟨rfl,hx⟩
theorem D4c (w:World) (raw:Result Next) (d:Array UInt8) (k:IntKind) (i:Int) (h:0≤i∧i<d.toList.length):D2n w raw (.string ⟨d⟩) (.int k i)=.ok (.value (.int .u8 (n8 (g8 d.toList i.toNat)))) w:=if_pos h
theorem A7p (n:Nat) (hn:n≤12) (w:World):Calls Tryz.prog 145 #[.int .u64 (n:Int)] w fun x w'=>(∃m,x=.returned (.int .i64 m))∧w'=w:=by
 have h:n=0∨n=1∨n=2∨n=3∨n=4∨n=5∨n=6∨n=7∨n=8∨n=9∨n=10∨n=11∨n=12:=by omega
 rcases h with rfl | rfl | rfl | rfl | rfl | rfl | rfl | rfl | rfl | rfl | rfl | rfl | rfl;all_goals
  go_enter Tryz.func145,Tryz.ntmps145;go_wp2_with fail;rw[D4c _ _ _ _ _ (by decide),Oper.upon_value];go_wp2_with fail;go_ret;exact ⟨⟨_,rfl⟩,rfl⟩
theorem B7d (n:Nat) (hn:n≤12) (w:World):Calls Tryz.prog 90 #[.int .u64 (n:Int)] w fun x w'=>(∃m,x=.returned (.int .i64 m))∧w'=w:=by
 have hc:=Lib.hid (A7p n hn w);go_enter Tryz.func90,Tryz.ntmps90;go_wp2_with fail;refine hc.out.mono ?_;rintro x w' ⟨⟨m,rfl⟩,hw⟩;rw[hw];go_wp2_with fail;go_ret;exact ⟨⟨_,rfl⟩,rfl⟩
theorem C3m (base:Nat) (v:Value) (ks:List (List UInt8)) (w:World) (h:OwnK w base v ks) (hm:ks.length≤12) (nd:ks.Nodup) :
 Calls Tryz.prog 42 #[v,.func (.func 43) #[] #[]] w fun x w'=>x=.returned (.tuple #[])∧∃l,OwnK w' base v l∧l.Perm ks∧l.Pairwise blt∧w.grownBy w' v.ownBlock:=by
 obtain⟨n,hn⟩:∃n,ks.length=n:=⟨_,rfl⟩;have hc:=fun m=>Lib.hid (D1x base v ks n m w h hn (by omega) nd);obtain⟨A,c,rfl,-,-⟩:=h.form;rw[hn]at hc hm ⊢;clear h hn;go_enter Tryz.func42,Tryz.ntmps42;go_wp2_with fail;refine (B7d n hm w).mono ?_;rintro x w1 ⟨⟨m,rfl⟩,hw⟩;rw[hw];clear hw;go_wp2_with fail;refine (hc m).out.mono ?_;rintro x w' ⟨rfl,hx⟩;go_wp2_with fail;exact bodyPost_end (results_none rfl _ _ _) rfl ⟨rfl,hx⟩
end
section
theorem Nq {us:List UV} {u:UV} {L:List En}:applyE (us++[u]) L=Bs (applyE us L) u:=by simp[applyE]
theorem Hc {us:List UV} {u:UV} {L:List En} {x:List UInt8}:moreE (us++[u]) L x=moreE us L x++if Aw (lookE (applyE us L) u.id) u=true∧u.id=x then [u] else []:=by
 unfold moreE;rw[Pk,List.filter_append];congr 1;by_cases h:Aw (lookE (applyE us L) u.id) u=true
 ·by_cases e:u.id=x<;>simp[h,e]
 ·simp[h]
theorem B9d {w w':World} {base b sz n:Nat} {T:TypeId} {v:Value} {xs:List Value} (h:w.ownsRow base T sz v n xs) (hg:w.grownBy w' (some b)) (hb:b<base):w'.ownsRow base T sz v n xs:=
 World.ownsRow.kept h hg (by
  cases hv:v.ownBlock with
  | none=>exact .inl rfl
  | some k=>
   refine .inr fun e=>?_;injection e with e;have:=(h.lt k hv).1;omega)
abbrev gd0 (m : List UInt8 → Option Value) (x : List UInt8) : Value := (m x).getD (.slice none 0 0)
structure StI (w wr : World) (dc : List Value) (L : List En) (pre : List UV) (iv : Value) (S : List (List UInt8)) (m1 m2 : List UInt8 → Option Value) (n : Nat) : Prop where
 box:Bk wr w.heap.size 56 dc
 more:MapV wr (w.heap.size+1) n m2
 now:MapV wr (w.heap.size+2) n m1
 ids:OwnK wr (w.heap.size+3) iv S
 nw:∀x v,m1 x=some v→OwnK wr (w.heap.size+3) v (lookE (applyE pre L) x)∧0<(lookE (applyE pre L) x).length∧(v.ownBlock=none∨v.ownBlock≠iv.ownBlock)
 nw0:∀x,m1 x=none→moreE pre L x=[]
 mr:∀x,OwnU wr (w.heap.size+3) (gd0 m2 x) (moreE pre L x)
 ap:∀x y,x≠y→(gd0 m2 x).ownBlock=none∨(gd0 m2 x).ownBlock≠(gd0 m2 y).ownBlock
 below:Below w.heap.size w wr
 hn:n≤pre.length
section
variable {w wr w' : World} {dc : List Value} {L : List En} {pre : List UV} {iv iv' : Value} {S S' : List (List UInt8)} {m1 m2 : List UInt8 → Option Value} {n : Nat} {u : UV}
theorem StI.z (h:StI w wr dc L pre iv S m1 m2 n):w.heap.size+3≤wr.heap.size:=h.now.lt
theorem StI.up (h:StI w wr dc L pre iv S m1 m2 n) (hb:Below wr.heap.size wr w'):StI w w' dc L pre iv S m1 m2 n:=
 ⟨h.box.below hb h.box.lt,h.more.below hb (Nat.le_refl _),h.now.below hb (Nat.le_refl _),h.ids.below hb (Nat.le_refl _),fun x v e=>⟨(h.nw x v e).1.below hb (Nat.le_refl _),(h.nw x v e).2⟩,h.nw0,fun x=>⟨(h.mr x).1,Q7 (h.mr x).2 hb (Nat.le_refl _)⟩,h.ap,C0 h.below hb h.below.size,h.hn⟩
theorem StI.skip (h:StI w wr dc L pre iv S m1 m2 n) (hn:Aw (lookE (applyE pre L) u.id) u=false):StI w wr dc L (pre++[u]) iv S m1 m2 n:=by
 have e1:applyE (pre++[u]) L=applyE pre L:=by rw[Nq];unfold Bs;rw[hn];rfl
 have e2:∀x,moreE (pre++[u]) L x=moreE pre L x:=fun x=>by rw[Hc,hn];simp
 refine ⟨h.box,h.more,h.now,h.ids,?_,?_,?_,h.ap,h.below,by simp;have:=h.hn;omega⟩
 ·rw[e1];exact h.nw
 ·intro x hx;rw[e2];exact h.nw0 x hx
 ·intro x;rw[e2];exact h.mr x
theorem StI.grow (h:StI w wr dc L pre iv S m1 m2 n) (ho:OwnK w' (w.heap.size+3) iv' S') (hb:Below (w.heap.size+3) wr w') (hg:wr.grownBy w' iv.ownBlock) (hi:iv'.ownBlock=iv.ownBlock∨iv'.ownBlock=some (wr.heap.size+1)):StI w w' dc L pre iv' S' m1 m2 n:=by
 have aA:∀b,b<w.heap.size+3→some b≠iv.ownBlock:=fun b hb e=>by have:=(h.ids.2.lt b e.symm).1;omega
 refine ⟨h.box.below hb (by omega),h.more.kept hg (aA _ (by omega)),h.now.kept hg (aA _ (by omega)),ho,fun x v e=>?_,h.nw0,fun x=>⟨(h.mr x).1,World.ownsRow.kept (h.mr x).2 hg (Fb (h.mr x).2 h.ids.2 (by decide))⟩,h.ap,h.below.trans (hb.mono (by omega)),h.hn⟩;obtain⟨h1,h2,h3⟩:=h.nw x v e;refine ⟨⟨h1.1,World.ownsRow.kept h1.2 hg h3⟩,h2,?_⟩;rcases hi with hi | hi
 ·rw[hi];exact h3
 ·cases hv:v.ownBlock with
  | none=>exact .inl rfl
  | some k=>
   refine .inr fun e2=>?_;rw[hi]at e2;injection e2 with e2;have:=(h1.2.lt k hv).2;omega
theorem StI.acc {w1 w2 w3:World} {kv a:Value} (h:StI w wr dc L pre iv S m1 m2 n) (hn:Aw (lookE (applyE pre L) u.id) u=true) (huo:u.Ok) (okL:OkE (applyE pre L))
 (hk:OwnK w1 (w.heap.size+3) kv (lookE (applyE pre L) u.id++[u.key])) (hka:kv.ownBlock=none∨kv.ownBlock≠iv.ownBlock)
 (ha:w1.ownsRow (w.heap.size+3) 48 129 a ((moreE pre L u.id).length+1) ((moreE pre L u.id).flatMap P9++P9 u)) (hb1:Below (w.heap.size+3) wr w1) (hg1:wr.grownBy w1 (gd0 m2 u.id).ownBlock) (hi:a.ownBlock=(gd0 m2 u.id).ownBlock∨a.ownBlock=some wr.heap.size)
 (hg2:w1.grownBy w2 (some (w.heap.size+2))) (hM1:MapV w2 (w.heap.size+2) (n+1) (Qe m1 u.id kv)) (hg3:w2.grownBy w3 (some (w.heap.size+1))) (hM2:MapV w3 (w.heap.size+1) (n+1) (Qe m2 u.id a)) :
 StI w w3 dc L (pre++[u]) iv S (Qe m1 u.id kv) (Qe m2 u.id a) (n+1):=by
 have e1:applyE (pre++[u]) L=Bm u.id u.key (applyE pre L):=by rw[Nq];unfold Bs;rw[hn,if_pos rfl]
 have e2:∀x,lookE (applyE (pre++[u]) L) x=if x=u.id then lookE (applyE pre L) u.id++[u.key] else lookE (applyE pre L) x:=fun x=>by rw[e1,Ce okL huo.id huo.key]
 have e3:∀x,moreE (pre++[u]) L x=if x=u.id then moreE pre L u.id++[u] else moreE pre L x:=fun x=>by
  rw[Hc];by_cases e:x=u.id
  ·subst e;rw[if_pos ⟨hn,rfl⟩,if_pos rfl]
  ·rw[if_neg (fun h=>e h.2.symm),if_neg e,List.append_nil]
 have aA:∀b,b<w.heap.size+3→b≠w.heap.size+1→b≠w.heap.size+2→w3.heap[b]?=wr.heap[b]?:=fun b hb h1 h2=>by
  have hz:=h.z;rw[hg3.block b (by have:=hg1.size;have:=hg2.size;omega) (fun e=>by injection e with e;omega),hg2.block b (by have:=hg1.size;omega) (fun e=>by injection e with e;omega),hb1.block b hb]
 have far:∀ {T:TypeId} {sz k:Nat} {v:Value} {xs:List Value},w1.ownsRow (w.heap.size+3) T sz v k xs→w3.ownsRow (w.heap.size+3) T sz v k xs:=fun h=>B9d (B9d h hg2 (by omega)) hg3 (by omega);have k1:∀ {v:Value} {ks:List (List UInt8)},OwnK wr (w.heap.size+3) v ks→OwnK w3 (w.heap.size+3) v ks:=fun h'=>⟨h'.1,far (World.ownsRow.kept h'.2 hg1 (Fb h'.2 (h.mr u.id).2 (by decide)))⟩;refine ⟨?_,hM2,hM1.kept hg3 (fun e=>by injection e with e;omega),k1 h.ids,?_,?_,?_,?_,?_,by simp;have:=h.hn;omega⟩
 ·have:=h.box;unfold Bk at this ⊢;rw[aA _ (by omega) (by omega) (by omega)];exact this
 ·intro x v hv;rw[e2];unfold Qe at hv;by_cases e:x=u.id
  ·rw[if_pos e]at hv ⊢;injection hv with hv;subst hv;exact ⟨⟨hk.1,far hk.2⟩,by simp,hka⟩
  ·rw[if_neg e]at hv ⊢;obtain⟨h1,h2,h3⟩:=h.nw x v hv;exact ⟨k1 h1,h2,h3⟩
 ·intro x hx;rw[e3];unfold Qe at hx;by_cases e:x=u.id
  ·rw[if_pos e]at hx;cases hx
  ·rw[if_neg e]at hx ⊢;exact h.nw0 x hx
 ·intro x;rw[e3];unfold gd0 Qe;by_cases e:x=u.id
  ·rw[if_pos e,if_pos e,Option.getD_some];refine ⟨fun y hy=>?_,by simpa using far ha⟩;rcases List.mem_append.1 hy with hy | hy
   ·exact (h.mr u.id).1 y hy
   ·obtain rfl:=List.mem_singleton.1 hy;exact huo
  ·rw[if_neg e,if_neg e];exact ⟨(h.mr x).1,far (World.ownsRow.kept (h.mr x).2 hg1 (h.ap x u.id e))⟩
 ·intro x y aB;have aC:∀z,(gd0 m2 z).ownBlock=none∨(gd0 m2 z).ownBlock≠some wr.heap.size:=fun z=>by
   cases hv:(gd0 m2 z).ownBlock with
   | none=>exact .inl rfl
   | some k=>
    refine .inr fun e2=>?_;injection e2 with e2;have:=((h.mr z).2.lt k hv).2;omega
  unfold gd0 Qe;by_cases ex:x=u.id
  ·have ey:¬ y=u.id:=fun e=>aB (by rw[ex,e]);rw[if_pos ex,if_neg ey,Option.getD_some];rcases hi with hi | hi
   ·rw[hi];exact h.ap u.id y (fun e=>ey e.symm)
   ·rw[hi];refine .inr fun e=>?_;rcases aC y with h1 | h1
    ·unfold gd0 at h1;rw[h1]at e;cases e
    ·exact h1 e.symm
  ·rw[if_neg ex];by_cases ey:y=u.id
   ·rw[if_pos ey,Option.getD_some];rcases hi with hi | hi
    ·rw[hi];exact h.ap x u.id ex
    ·rw[hi];exact aC x
   ·rw[if_neg ey];exact h.ap x y aB
 ·have b3:Below w.heap.size wr w3:=⟨by rw[hg3.os,hg2.os,hg1.os],by rw[hg3.tape,hg2.tape,hg1.tape],by rw[hg3.output,hg2.output,hg1.output],by have:=hg1.size;have:=hg2.size;have:=hg3.size;omega,fun b hb=>aA b (by omega) (by omega) (by omega)⟩;exact h.below.trans b3
end
end
section
structure AbOk (U : Nat → Nat → Nat → UV) (I : Nat → List UInt8) : Prop where
 sg:∀k v i,k<4→i<8→1≤v→v≤i+1→signedB (U k v i)=true
 ver:∀k v i,(U k v i).ver=(v:Int)
 id:∀k v i,(U k v i).id=I k
 ok:∀k v i,(U k v i).Ok
 inj:∀j k,j<4→k<4→I j=I k→j=k
def abL (U:Nat→Nat→Nat→UV) (ks:List Nat):List UV:=ks.zipIdx.map fun p=>U p.1 ((ks.take p.2).count p.1+1) p.2
theorem Me (U:Nat→Nat→Nat→UV) (ks:List Nat) (k:Nat):abL U (ks++[k])=abL U ks++[U k (ks.count k+1) ks.length]:=by
 unfold abL;rw[List.zipIdx_append,List.map_append];congr 1
 ·refine List.map_congr_left fun p hp=>?_;have h:=List.snd_lt_of_mem_zipIdx hp;rw[List.take_append_of_le_length (by omega)]
 ·simp
theorem A1j (U:Nat→Nat→Nat→UV) (ks:List Nat):(abL U ks).length=ks.length:=by simp[abL]
theorem B4r (us vs:List UV) (L:List En):applyE (us++vs) L=applyE vs (applyE us L):=by simp[applyE]
theorem B3m:∀(vs:List UV) (L:List En),(∀u∈vs,u.ver≤((lookE L u.id).length:Int))→Z0 vs L=[]∧applyE vs L=L
 | [],_,_=>⟨rfl,rfl⟩
 | u::vs,L,h=>by
  have h1:=h u (by simp);have hn:Aw (lookE L u.id) u=false:=by unfold Aw;rw[decide_eq_false (by omega),Bool.and_false]
  have hs:applyE (u::vs) L=applyE vs (Bs L u):=rfl;have aA:Bs L u=L:=by unfold Bs;rw[hn];rfl
  rw[hs,aA];unfold Z0;rw[if_neg (by rw[hn];decide)];exact B3m vs L fun v hv=>h v (by simp[hv])
theorem D2v {p:List Nat→Prop} (h0:p []) (hs:∀ks k,p ks→p (ks++[k])) (ks:List Nat):p ks:=by
 have h:∀l:List Nat,p l.reverse:=by
  intro l;induction l with
  | nil=>exact h0
  | cons a l ih=>rw[List.reverse_cons];exact hs _ _ ih
 have:=h ks.reverse;rwa [List.reverse_reverse]at this
theorem Eo (ks:List Nat) (k j:Nat):(ks++[k]).count j=ks.count j+if k=j then 1 else 0:=by
 rw[List.count_append,List.count_singleton];simp
section
variable {U : Nat → Nat → Nat → UV} {I : Nat → List UInt8}
theorem A1d (h:AbOk U I):∀ks:List Nat,(∀k∈ks,k<4)→ks.length≤8→Z0 (abL U ks) []=abL U ks∧OkE (applyE (abL U ks) [])∧(∀k,k<4→(lookE (applyE (abL U ks) []) (I k)).length=ks.count k)∧
 (∀u∈abL U ks,∃k v i,u=U k v i∧k∈ks∧v≤ks.count k)∧(∀k,k<4→((abL U ks).filter fun u=>decide (u.id=I k)).length=ks.count k)∧
 ∀k,k<4→∀(j:Nat) u,((abL U ks).filter fun u=>decide (u.id=I k))[j]?=some u→u.ver=(j:Int)+1:=by
 refine D2v (fun _ _=>⟨rfl,OkE.nil,fun k _=>rfl,fun u hu=>(by cases hu),fun k _=>rfl,fun k _ j u hu=>(by simp[abL]at hu)⟩) fun ks k ih hk hl=>?_;obtain⟨h1,h2,h3,h4,h5,h6⟩:=ih (fun j hj=>hk j (by simp[hj])) (by simp at hl;omega);have aA:k<4:=hk k (by simp);have hn:ks.length<8:=by simp at hl;omega
 obtain⟨u,hu⟩:∃u,u=U k (ks.count k+1) ks.length:=⟨_,rfl⟩;have aB:u.id=I k:=by rw[hu];exact h.id _ _ _
 have aC:u.ver=((ks.count k+1:Nat):Int):=by rw[hu];exact h.ver _ _ _
 have aD:u.Ok:=by rw[hu];exact h.ok _ _ _
 have aH:signedB u=true:=by rw[hu];have:=List.count_le_length (a:=k) (l:=ks);exact h.sg _ _ _ aA hn (by omega) (by omega)
 have aE:Aw (lookE (applyE (abL U ks) []) u.id) u=true:=by unfold Aw;rw[aH,aB,h3 k aA,aC,Bool.true_and];exact decide_eq_true (by omega)
 have aF:applyE (abL U (ks++[k])) []=Bm u.id u.key (applyE (abL U ks) []):=by rw[Me,←hu,Nq];unfold Bs;rw[aE,if_pos rfl]
 have aG:∀j,j<4→(abL U (ks++[k])).filter (fun u=>decide (u.id=I j))=(abL U ks).filter (fun u=>decide (u.id=I j))++if k=j then [u] else []:=fun j hj=>by
  rw[Me,←hu,List.filter_append];congr 1;by_cases e:k=j
  ·subst e;simp[aB]
  ·have:¬ I k=I j:=fun e2=>e (h.inj k j aA hj e2);simp[aB,this,e]
 refine ⟨?_,?_,fun j hj=>?_,?_,fun j hj=>?_,fun j hj=>?_⟩
 ·rw[Me,←hu,Pk,h1,if_pos aE]
 ·rw[aF];exact h2.with aD.id aD.key
 ·rw[aF,Ce h2 aD.id aD.key,Eo];by_cases e:k=j
  ·subst e;rw[if_pos aB.symm,if_pos rfl,List.length_append,aB,h3 k aA];rfl
  ·rw[if_neg (fun e2=>e (h.inj k j aA hj (aB.symm.trans e2.symm))),if_neg e,h3 j hj];rfl
 ·intro x hx;rw[Me,←hu]at hx;rcases List.mem_append.1 hx with hx | hx
  ·obtain⟨a,b,c,e1,e2,e3⟩:=h4 x hx;exact ⟨a,b,c,e1,by simp[e2],by rw[Eo];omega⟩
  ·obtain rfl:=List.mem_singleton.1 hx;exact ⟨k,_,_,hu,by simp,by rw[Eo,if_pos rfl];exact Nat.le_refl _⟩
 ·rw[aG j hj,List.length_append,h5 j hj,Eo];by_cases e:k=j<;>simp[e]
 ·intro i x hx;rw[aG j hj]at hx;by_cases e:k=j
  ·subst e;rw[if_pos rfl,List.getElem?_append]at hx;split at hx
   ·exact h6 k aA i x hx
   ·rename_i hlt
    rw[h5 k aA]at hlt hx;have hi:i-ks.count k=0:=by
     have:=(List.getElem?_eq_some_iff.1 hx).1;simp at this;omega
    rw[hi]at hx;simp at hx;rw[←hx,aC];omega
  ·rw[if_neg e,List.append_nil]at hx;exact h6 j hj i x hx
theorem B0c (h:AbOk U I) {ks:List Nat} (hk:∀k∈ks,k<4) (hl:ks.length≤8):Z0 (abL U ks++abL U ks) []=abL U ks∧applyE (abL U ks++abL U ks) []=applyE (abL U ks) []:=by
 obtain⟨h1,h2,h3,h4,_,_⟩:=A1d h ks hk hl;have:=B3m (abL U ks) (applyE (abL U ks) []) fun u hu=>by
  obtain⟨k,v,i,rfl,e2,e3⟩:=h4 u hu;rw[h.ver,h.id,h3 k (hk k e2)];exact_mod_cast e3
 rw[Uq,B4r,h1,this.1,this.2,List.append_nil];exact ⟨rfl,rfl⟩
theorem C0f (h:AbOk U I) {ks:List Nat} (hk:∀k∈ks,k<4) (hl:ks.length≤8) (x:List UInt8):moreE (abL U ks++abL U ks) [] x=(abL U ks).filter fun u=>decide (u.id=x):=by
 unfold moreE;rw[(B0c h hk hl).1]
def dkL (ks:List Nat):List Nat:=(List.range 4).filter fun k=>decide (k∈ks)
theorem D7h (h:AbOk U I) {ks:List Nat} (hk:∀k∈ks,k<4) (hl:ks.length≤8) {S:List (List UInt8)} (hn:S.Nodup) (hm:∀x,x∈S↔moreE (abL U ks++abL U ks) [] x≠[]):S.Perm ((dkL ks).map I):=by
 obtain⟨_,_,_,h4,h5,_⟩:=A1d h ks hk hl;have aB:((dkL ks).map I).Nodup:=by
  unfold List.Nodup;rw[List.pairwise_map];have h6:(dkL ks).Pairwise (·≠·):=List.Pairwise.filter _ List.nodup_range;refine h6.imp_of_mem fun {a b} ha hb hne e=>hne (h.inj a b ?_ ?_ e)
  ·exact List.mem_range.1 (List.mem_filter.1 ha).1
  ·exact List.mem_range.1 (List.mem_filter.1 hb).1
 rw[List.perm_ext_iff_of_nodup hn aB];intro x;rw[hm,C0f h hk hl];constructor
 ·intro hx;obtain⟨u,l,e⟩:=List.exists_cons_of_ne_nil hx;have hu:u∈(abL U ks).filter fun u=>decide (u.id=x):=by rw[e];simp
  obtain⟨aC,aA⟩:=List.mem_filter.1 hu;obtain⟨k,v,i,rfl,e2,_⟩:=h4 u aC;rw[h.id]at aA;exact List.mem_map.2 ⟨k,List.mem_filter.2 ⟨List.mem_range.2 (hk k e2),decide_eq_true e2⟩,of_decide_eq_true aA⟩
 ·intro hx e;obtain⟨k,aD,rfl⟩:=List.mem_map.1 hx;obtain⟨h7,h8⟩:=List.mem_filter.1 aD;have h9:=h5 k (List.mem_range.1 h7);rw[e]at h9;have:=List.count_pos_iff.2 (of_decide_eq_true h8);simp at h9;omega
theorem Yz (ks:List Nat):∀l:List Nat,((l.filter fun k=>decide (k∈ks)).map fun k=>ks.count k).sum=(l.map fun k=>ks.count k).sum
 | []=>rfl
 | k::l=>by
  have ih:=Yz ks l;by_cases e:k∈ks
  ·rw[List.filter_cons_of_pos (by simp[e]),List.map_cons,List.sum_cons,List.map_cons,List.sum_cons,ih]
  ·rw[List.filter_cons_of_neg (by simp[e]),List.map_cons,List.sum_cons,ih,List.count_eq_zero.2 e,Nat.zero_add]
theorem C1b {ks:List Nat} (h:∀k∈ks,k<4):((dkL ks).map fun k=>ks.count k).sum=ks.length:=by
 unfold dkL;rw[Yz];revert h;induction ks using List.rec with
 | nil=>intro _;rfl
 | cons k ks ih=>
  intro h;have hk:=h k (by simp);have:=ih fun j hj=>h j (by simp[hj]);simp only[List.range,List.range.loop,List.map_cons,List.map_nil,List.sum_cons,List.sum_nil,List.count_cons,List.length_cons]at this ⊢;have h2:k=0∨k=1∨k=2∨k=3:=by omega
  rcases h2 with rfl | rfl | rfl | rfl<;>simp<;>omega
theorem D6q (h:AbOk U I) {ks:List Nat} (hk:∀k∈ks,k<4) (hl:ks.length≤8) {S:List (List UInt8)} (hn:S.Nodup) (hm:∀x,x∈S↔moreE (abL U ks++abL U ks) [] x≠[]) :
 S.length=(dkL ks).length∧(∀x∈S,∀(j:Nat) u,(moreE (abL U ks++abL U ks) [] x)[j]?=some u→u.ver=(j:Int)+1∧u.id=x)∧(S.map fun x=>(moreE (abL U ks++abL U ks) [] x).length).sum=ks.length:=by
 have hp:=D7h h hk hl hn hm;obtain⟨_,_,_,_,h5,h6⟩:=A1d h ks hk hl;have aB:=C0f h hk hl;refine ⟨by rw[hp.length_eq,List.length_map],fun x hx j u hu=>?_,?_⟩
 ·obtain⟨k,aA,rfl⟩:=List.mem_map.1 ((hp.mem_iff).1 hx);have aC:=List.mem_range.1 (List.mem_filter.1 aA).1;rw[aB]at hu;exact ⟨h6 k aC j u hu,of_decide_eq_true (List.mem_filter.1 (List.mem_of_getElem? hu)).2⟩
 ·rw[(hp.map _).sum_nat,List.map_map,←C1b hk];congr 1;refine List.map_congr_left fun k aA=>?_;show (moreE _ _ (I k)).length=_;rw[aB];exact h5 k (List.mem_range.1 (List.mem_filter.1 aA).1)
end
end
noncomputable def uAB (k v i:Nat):UV:=mkU (Gb (UInt8.ofNat k) 98) (v:Int) (h1 (UInt8.ofNat i))
noncomputable def C3d (k:Nat):List UInt8:=Ac (Gb (UInt8.ofNat k) 98)
theorem C8p (k v i:Nat):(uAB k v i).Ok:=C3y _ _ (Dm _)
def kj (k:Nat):Lit:=.int .i64 (k:Int)
theorem C7n:∀ {k:Nat},k<4→keyOf Tryz.prog 3 (.int .i64 (k:Int))=some (kj k)
 | 0,_=>(by kernel_rfl)
 | 1,_=>(by kernel_rfl)
 | 2,_=>(by kernel_rfl)
 | 3,_=>(by kernel_rfl)
 | n+4,h=>absurd h (by omega)
theorem E0e {k j:Nat} (h:k≠j):kj k≠kj j:=fun e=>h (by
 unfold kj at e;injection e with _ e;omega)
theorem D6r {k:Nat} (h:k<4):WideAt.IsKeyLit (kj k):=Kp.key (C7n h)
def nzC (c:Nat→Nat):Nat:=(if c 0=0 then 0 else 1)+(if c 1=0 then 0 else 1)+(if c 2=0 then 0 else 1)+(if c 3=0 then 0 else 1)
theorem D6i (ks:List Nat):nzC (fun k=>ks.count k)=(dkL ks).length:=by
 have h:∀k,(ks.count k=0)=¬ k∈ks:=fun k=>by rw[List.count_eq_zero]
 unfold nzC dkL;simp only[h,List.range,List.range.loop,List.filter_cons,List.filter_nil,decide_eq_true_eq];by_cases h0:0∈ks<;>by_cases h1:1∈ks<;>by_cases h2:2∈ks<;>by_cases h3:3∈ks<;>simp[h0,h1,h2,h3]
def MapN (w:World) (b n:Nat) (c:Nat→Nat):Prop:=∃D:DataW Value,w.ownsMap Tryz.prog 3 RI b n D∧(∀k,k<4→∀z,D.atKey (kj k) z=if c k=0 then z else .held (.int .i64 (c k:Int)))∧Maps.size D=nzC c
theorem MapN.mc {w:World} {b n:Nat} {c:Nat→Nat} (h:MapN w b n c):D8d w b n:=by
 obtain⟨D,hD,_⟩:=h;exact ⟨D,hD⟩
theorem MapN.made (w:World):MapN (w.alloc (.map #[] 0)) w.heap.size 0 (fun _=>0):=⟨.map [],World.ownsMap_made _ _ _ _,fun k hk z=>(by rw[if_pos rfl];rfl),rfl⟩
theorem MapN.kept {w w':World} {b n:Nat} {c:Nat→Nat} {row:Option Nat} (h:MapN w b n c) (hg:w.grownBy w' row) (hne:some b≠row):MapN w' b n c:=by
 obtain⟨D,hD,h1⟩:=h;exact ⟨D,hD.kept hg hne,h1⟩
theorem MapN.below {w w':World} {b n:Nat} {c:Nat→Nat} (h:MapN w b n c) (hb:Below w.heap.size w w'):MapN w' b n c:=
 h.kept (row:=none) ⟨hb.os,hb.tape,hb.output,hb.size,fun k hk _=>hb.block k (by omega)⟩ (by simp)
theorem MapN.own {w w':World} {b n base sz k:Nat} {T:TypeId} {v:Value} {xs:List Value} {c:Nat→Nat} (h:MapN w b n c) (ho:w.ownsRow base T sz v k xs) (hg:w.grownBy w' v.ownBlock):MapN w' b n c:=by
 refine h.kept hg fun e=>?_;rcases B7v ho h.mc.row with h1 | h1
 ·rw[h1]at e;cases e
 ·exact h1 e.symm
theorem D1s (c:Nat→Nat):∀ {k:Nat},k<4→nzC (fun j=>if j=k then c k+1 else c j)=if c k=0 then nzC c+1 else nzC c
 | 0,_=>by unfold nzC;by_cases h:c 0=0<;>simp[h]<;>omega
 | 1,_=>by unfold nzC;by_cases h:c 1=0<;>simp[h]<;>omega
 | 2,_=>by unfold nzC;by_cases h:c 2=0<;>simp[h]<;>omega
 | 3,_=>by unfold nzC;by_cases h:c 3=0<;>simp[h]<;>omega
 | n+4,h=>absurd h (by omega)
theorem MapN.put {w:World} {b n:Nat} {c:Nat→Nat} (h:MapN w b n c) {k:Nat} (hk:k<4) :
 ∃D:DataW Value,w.ownsMap Tryz.prog 3 RI b n D∧∀w',w'.ownsMap Tryz.prog 3 RI b (n+1) (D.put (kj k) (.held (.int .i64 ((c k:Int)+1))))→MapN w' b (n+1) (fun j=>if j=k then c k+1 else c j):=by
 obtain⟨D,hD,hl,hs⟩:=h;refine ⟨D,hD,fun w' h'=>⟨_,h',fun j hj z=>?_,?_⟩⟩
 ·show _=if (if j=k then c k+1 else c j)=0 then z else .held (.int .i64 (((if j=k then c k+1 else c j):Nat):Int));by_cases e:j=k
  ·subst e;rw[if_pos rfl,if_neg (by omega)];exact Maps.atKey_put_same hD.isMap (D6r hk) _ _
  ·rw[Maps.atKey_put_other (E0e e) _ _,hl j hj z,if_neg e]
 ·rw[Maps.size_put (hD.tidy Kp),D1s c hk,hs];by_cases e:c k=0
  ·rw[Maps.has_false_of_atKey (k:=kj k) fun z=>by rw[hl k hk z,if_pos e],if_pos e];rfl
  ·rw[Maps.has_true_of_atKey (k:=kj k) fun z=>by rw[hl k hk z,if_neg e],if_neg e];rfl
theorem E5v (w:World):(zeroValue 3).run Tryz.prog w=.ok (.int .i64 0) w:=by kernel_rfl
theorem MapN.look {w:World} {b n:Nat} {c:Nat→Nat} (h:MapN w b n c) {k:Nat} (hk:k<4) :
 (Instr.lookup 45 (.map (some b)) (.int .i64 (k:Int)) false).run Tryz.prog w=.ok (.int .i64 (c k:Int)) w:=by
 obtain⟨D,⟨es,aA,hb,F,_,rfl⟩,hl,_⟩:=h;have h3:=hl k hk .nil;rcases Maps.fit_look false Kp Tryz.underlying45 (E5v w) hb F (C7n hk) with ⟨hrun,_,hat⟩ | ⟨e0,y,_,_,hrun,hRv,hat,_⟩
 ·by_cases hm:c k=0
  ·rw[hm];exact hrun
  ·rw[hat,if_neg hm]at h3;cases h3
 ·obtain⟨x,hx⟩:=D8f hRv;have hy:y.1=.held e0.val:=by rw[hx]at hRv ⊢;have:some (DataW.held (Value.int .i64 x),([]:List MemPlace))=some y:=hRv;injection this with this;rw[←this]
  by_cases hm:c k=0
  ·rw[hat,hy,if_pos hm]at h3;cases h3
  ·rw[hat,hy,if_neg hm]at h3;injection h3 with h3;rw[←h3];exact hrun
theorem MapN.len {w:World} {b n:Nat} {c:Nat→Nat} (h:MapN w b n c) (ty:TypeId):(Builtin.len_ #[45] ty #[.map (some b)]).run Tryz.prog w=.ok (.int .i64 (nzC c:Int)) w:=by
 obtain⟨D,hD,_,hs⟩:=h;rw[←hs];exact hD.len Tryz.underlying45 ty
end Go.Proofs.YtdfpoofbgjilgaaGreat
