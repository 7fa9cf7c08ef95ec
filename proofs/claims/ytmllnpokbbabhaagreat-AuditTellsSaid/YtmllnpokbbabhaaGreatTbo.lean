/- A part of the proof of AuditTells. -/
import Derived.Lib.Bytealg
import Derived.Test.YtmllnpokbbabhaaGreatTbn
set_option linter.unusedVariables false
set_option linter.unusedSimpArgs false
set_option maxRecDepth 100000
set_option maxHeartbeats 40000000
namespace Go.Proofs.YtmllnpokbbabhaaGreat
open Go Go.RowKit Sh
def blt (a b:List UInt8):Prop:=Lib.compareBytes a b<0
theorem Vf {a b:UInt8} {ar bs:List UInt8}:blt (a::ar) (b::bs)↔a<b∨(a=b∧blt ar bs):=by
 unfold blt;conv=>lhs;unfold Lib.compareBytes
 by_cases h:a<b
 ·simp[h]
 ·by_cases h2:b<a
  ·have:a≠b:=by rintro rfl;exact h h2
   simp[h,h2,this]
  ·have:a=b:=UInt8.le_antisymm (UInt8.not_lt.1 h2) (UInt8.not_lt.1 h);simp[this]
theorem C0x:∀a:List UInt8,¬ blt a a
 | []=>by simp[blt,Lib.compareBytes]
 | a::ar=>by
  rw[Vf];rintro (h | h)
  ·exact UInt8.lt_irrefl _ h
  ·exact C0x ar h.2
theorem A5t:∀ {a b c:List UInt8},blt a b→blt b c→blt a c
 | [],[],_,h,_=>absurd h (C0x _)
 | [],_::_,[],_,h=>by simp[blt,Lib.compareBytes]at h
 | [],_::_,_::_,_,_=>by simp[blt,Lib.compareBytes]
 | _::_,[],_,h,_=>by simp[blt,Lib.compareBytes]at h
 | _::_,_::_,[],_,h=>by simp[blt,Lib.compareBytes]at h
 | a::ar,b::bs,c::cs,h,k=>by
  rw[Vf]at h k ⊢;rcases h with h | ⟨rfl,h⟩
  ·rcases k with k | ⟨rfl,k⟩
   ·exact .inl (UInt8.lt_trans h k)
   ·exact .inl h
  ·rcases k with k | ⟨rfl,k⟩
   ·exact .inl k
   ·exact .inr ⟨rfl,A5t h k⟩
theorem A7d:∀a b:List UInt8,blt a b∨a=b∨blt b a
 | [],[]=>.inr (.inl rfl)
 | [],_::_=>by simp[blt,Lib.compareBytes]
 | _::_,[]=>by simp[blt,Lib.compareBytes]
 | a::ar,b::bs=>by
  rw[Vf,Vf];rcases Nat.lt_trichotomy a.toNat b.toNat with h | h | h
  ·exact .inl (.inl h)
  ·have e:a=b:=UInt8.toNat_inj.1 h;subst e;rcases A7d ar bs with h | rfl | h
   ·exact .inl (.inr ⟨rfl,h⟩)
   ·exact .inr (.inl rfl)
   ·exact .inr (.inr (.inr ⟨rfl,h⟩))
  ·exact .inr (.inr (.inl h))
structure Sink (l A : List (List UInt8)) (x : List UInt8) (B C : List (List UInt8)) : Prop where
 perm:(A++x::(B++C)).Perm l
 srt:(A++B).Pairwise blt
 low:∀b∈B,blt x b
theorem Sink.down {l A:List (List UInt8)} {a x:List UInt8} {B C:List (List UInt8)} (h:Sink l (A++[a]) x B C) (hl:blt x a):Sink l A x (a::B) C:=by
 refine ⟨?_,by simpa using h.srt,?_⟩
 ·refine List.Perm.trans ?_ h.perm;rw[List.append_assoc];exact List.Perm.append_left _ (List.Perm.swap _ _ _)
 ·intro b hb;rcases List.mem_cons.1 hb with rfl | hb
  ·exact hl
  ·exact h.low b hb
theorem Sink.stop {l A:List (List UInt8)} {x:List UInt8} {B C:List (List UInt8)} (h:Sink l A x B C) (hA:∀a∈A,blt a x):(A++x::B).Pairwise blt:=by
 have hs:=h.srt;rw[List.pairwise_append]at hs ⊢;refine ⟨hs.1,List.pairwise_cons.2 ⟨h.low,hs.2.1⟩,fun a ha b hb=>?_⟩;rcases List.mem_cons.1 hb with rfl | hb
 ·exact hA a ha
 ·exact hs.2.2 a ha b hb
theorem Sink.round {l A:List (List UInt8)} {x:List UInt8} {B C:List (List UInt8)} (h:Sink l A x B C) (hA:∀a∈A,blt a x) {i:Nat} (hi:A.length+B.length=i):((A++x::(B++C)).take (i+1)).Pairwise blt:=by
 have e:A++x::(B++C)=(A++x::B)++C:=by simp
 rw[e,List.take_left' (by simp;omega)];exact h.stop hA
theorem Sink.above {l A:List (List UInt8)} {a x:List UInt8} {B C:List (List UInt8)} (h:Sink l (A++[a]) x B C) (hl:¬ blt x a) (hn:l.Nodup):∀b∈A++[a],blt b x:=by
 have aA:=h.perm.nodup_iff.2 hn;have hx:a≠x:=by rintro rfl;rw[List.append_assoc,List.nodup_append]at aA;have:=aA.2.1;simp at this
 have ha:blt a x:=by
  rcases A7d x a with h1 | h1 | h1
  ·exact absurd h1 hl
  ·exact absurd h1.symm hx
  ·exact h1
 have hs:=(List.pairwise_append.1 h.srt).1;intro b hb;rcases List.mem_append.1 hb with hb | hb
 ·exact A5t ((List.pairwise_append.1 hs).2.2 b hb a (by simp)) ha
 ·obtain rfl:=List.mem_singleton.1 hb;exact ha
section
def KB (w:World) (g:Nat) (ks:List (List UInt8)) (tl:List Value):Prop:=(∀k∈ks,k.length=32)∧Bk w g 40 (c8 ks.flatten++tl)
theorem A5b:∀ {ks:List (List UInt8)} {i:Nat} {k:List UInt8},(∀x∈ks,x.length=32)→ks[i]?=some k→(ks.flatten.drop (i*32)).take 32=k
 | [],i,k,_,h=>by simp at h
 | x::ks,0,k,hl,h=>by
  have hx:=hl x (by simp);simp at h;subst h;simp[hx]
 | x::ks,i+1,k,hl,h=>by
  have hx:=hl x (by simp);rw[List.flatten_cons,show (i+1)*32=x.length+i*32 by omega,List.drop_length_add_append];exact A5b (fun y hy=>hl y (List.mem_cons_of_mem _ hy)) (by simpa using h)
theorem B2a:∀ {ks:List (List UInt8)} {i:Nat} {k:List UInt8},(∀x∈ks,x.length=32)→i<ks.length→(ks.set i k).flatten=ks.flatten.take (i*32)++k++ks.flatten.drop (i*32+32)
 | [],i,k,_,h=>by simp at h
 | x::ks,0,k,hl,h=>by
  have hx:=hl x (by simp);simp[hx]
 | x::ks,i+1,k,hl,h=>by
  have hx:=hl x (by simp);have ih:=B2a (ks:=ks) (i:=i) (k:=k) (fun y hy=>hl y (List.mem_cons_of_mem _ hy)) (by simpa using h);rw[List.set_cons_succ,List.flatten_cons,ih,List.flatten_cons];rw[show (i+1)*32=x.length+i*32 by omega,show x.length+i*32+32=x.length+(i*32+32) by omega,List.take_length_add_append,List.drop_length_add_append];simp
theorem Cc {ks:List (List UInt8)} (hl:∀x∈ks,x.length=32):ks.flatten.length=ks.length*32:=by
 induction ks with
 | nil=>rfl
 | cons x ks ih=>
  rw[List.flatten_cons,List.length_append,hl x (by simp),ih fun y hy=>hl y (List.mem_cons_of_mem _ hy),List.length_cons];omega
section
variable {w w' : World} {g : Nat} {ks : List (List UInt8)} {tl : List Value}
theorem KB.lt (h:KB w g ks tl):g<w.heap.size:=h.2.lt
theorem KB.below (h:KB w g ks tl) (hb:Below w.heap.size w w'):KB w' g ks tl:=⟨h.1,h.2.below hb h.2.lt⟩
theorem KB.row (h:KB w g ks tl) {i:Nat} {k:List UInt8} (hk:ks[i]?=some k):C4 w ⟨g,i*32,none⟩ 32=some (c8 k):=by
 have hi:i<ks.length:=(List.getElem?_eq_some_iff.1 hk).1;have hl:=Cc h.1;rw[h.2.row (o:=i*32) (n:=32) (by simp[hl];omega)];rw[List.drop_append_of_le_length (by simp[hl];omega),List.take_append_of_le_length (by simp[hl];omega)];unfold c8;rw[←List.map_drop,←List.map_take,A5b h.1 hk]
theorem KB.can (h:KB w g ks tl) {i:Nat} (hi:i<ks.length):F9 w ⟨g,i*32,none⟩ 32=true:=h.2.can (by simp[Cc h.1];omega)
theorem KB.put (h:KB w g ks tl) {i:Nat} (hi:i<ks.length) {k:List UInt8} (hk:k.length=32):KB (C2 w ⟨g,i*32,none⟩ (c8 k)) g (ks.set i k) tl:=by
 have hl:=Cc h.1;refine ⟨fun x hx=>?_,?_⟩
 ·rcases List.mem_or_eq_of_mem_set hx with hx | rfl
  ·exact h.1 x hx
  ·exact hk
 ·have:=h.2.put (o:=i*32) (vs:=c8 k) (by simp[hl,hk];omega);have e:(c8 ks.flatten++tl).take (i*32)++c8 k++(c8 ks.flatten++tl).drop (i*32+(c8 k).length)=c8 (ks.set i k).flatten++tl:=by rw[B2a h.1 hi,List.take_append_of_le_length (by simp[hl];omega),List.drop_append_of_le_length (by simp[hl,hk];omega)];simp[c8,hk]
  rw[e]at this;exact this
end
theorem B5f (x y:List UInt8) (hx:x.length=32) (hy:y.length=32) (w:World):Calls Tryz.prog 30 #[A8 x,A8 y] w fun e w'=>e=.returned (.int .i64 (Lib.compareBytes x y))∧Below w.heap.size w w':=by
 obtain⟨W0,aA⟩:=D9 ((w.alloc (Obj.cells (c8 x).toArray 40)).alloc (Obj.cells (c8 y).toArray 40));have B0:Below w.heap.size w W0:=by rw[aA];exact (U7 _ _).alloc (by simp) _
 have kX:Bk W0 w.heap.size 40 (c8 x):=by rw[aA];exact (Bk.new w 40 (c8 x)).alloc _
 have kY:Bk W0 (w.heap.size+1) 40 (c8 y):=by rw[aA];simpa using Bk.new (w.alloc (Obj.cells (c8 x).toArray 40)) 40 (c8 y)
 go_enter Tryz.func30,Tryz.ntmps30;go_wp2_with fail;rw[←aA];clear aA;have S1:=Nq W0;have aB:=Lib.hid (Bk.byAll kX.drew hx (by decide));have aC:=Lib.hid (Bk.byAll kY.drew hy (by decide));refine Ij (fun _=>True) ?_;refine Cn (A:=?aF) [0,1] trivial (fun W hW=>?aD) ?aG;case aD=>
  exact Fa
 refine Q6 2 fun Q' hQ'=>?_;dsimp only[C6];go_wp2_with fail;refine (Vh _ _ x y W0.drew aB.out aC.out).mono ?_;rintro e w1 ⟨rfl,aE⟩;rw[aE];go_wp2_with fail;refine hQ' _ _ trivial ?_;clear hQ';refine Q6 3 fun Q' hQ'=>?_;dsimp only[C6];go_wp2_with fail;refine hQ' _ _ trivial ?_;clear hQ';refine Gn ?_;go_wp2_with fail;go_ret;exact ⟨rfl,C3 B0 S1 B0.size⟩
theorem B7x (g c n:Nat) (ks:List (List UInt8)) (tl:List Value) (w:World) (hk:KB w g ks tl) (hn:ks.length=n) (hm:n≤12) (nd:ks.Nodup) :
 Calls Tryz.prog 112 #[.slice (some ⟨g,0,none⟩) n c,.int .i64 0,.int .i64 (n:Int),.func (.func 30) #[] #[]] w fun x w'=>x=.returned (.tuple #[])∧∃l,KB w' g l tl∧l.Perm ks∧l.Pairwise blt∧w.grownBy w' (some g):=by
 have HK:=Lib.hid hk;have HN:=Lib.hid hn;have bK:=hk.lt;clear hk hn;go_enter Tryz.func112,Tryz.ntmps112;go_wp2_with fail;go_loopw [8] (fun iv wr=>∃(i:Nat) (l:List (List UInt8)),iv=.int .i64 (i:Int)∧1≤i∧i≤13∧KB wr g l tl∧l.Perm ks∧(l.take i).Pairwise blt∧w.grownBy wr (some g)) (fun iv _=>n-(intOf iv).toNat)
 case atStart=>exact ⟨1,ks,rfl,Nat.le_refl _,by omega,HK.out,List.Perm.refl _,by cases ks<;>simp,⟨rfl,rfl,rfl,Nat.le_refl _,fun _ _ _=>rfl⟩⟩
 case round=>
  obtain⟨i,l,rfl,h1,bL,K,hp,hs,hg⟩:=hrel;have aE:l.length=n:=by rw[hp.length_eq];exact HN.out
  by_cases hi:i<n
  ·have hid:decide ((i:Int)<(n:Int))=true:=decide_eq_true (by omega);have aF:=decide_eq_true hi;have HP:=Lib.hid hp;have HS:=Lib.hid hs;have HL:=Lib.hid aE;clear hp hs aE;go_wp2_with fail;go_loopw [9] (fun jv w2=>∃(A:List (List UInt8)) (x:List UInt8) (B C:List (List UInt8)),jv=.int .i64 (A.length:Int)∧A.length+B.length=i∧KB w2 g (A++x::(B++C)) tl∧Sink ks A x B C∧w.grownBy w2 (some g)) (fun jv _=>(intOf jv).toNat)
   case atStart=>
    have aN:i<l.length:=by rw[HL.out];exact hi
    refine ⟨l.take i,l[i],[],l.drop (i+1),by simp[List.length_take];omega,by simp[List.length_take];omega,?_,⟨?_,by simpa using HS.out,by simp⟩,hg⟩
    ·rw[List.nil_append,←List.drop_eq_getElem_cons aN,List.take_append_drop];exact K
    ·rw[List.nil_append,←List.drop_eq_getElem_cons aN,List.take_append_drop];exact HP.out
   case round=>
    obtain⟨A,x,B,C,rfl,aO,K2,aP,aQ⟩:=hrel;have aB:=Lib.hid aP;have aD:=Lib.hid aO;clear aP aO K HP HS HL hg;rcases List.eq_nil_or_concat A with rfl | ⟨A',a,rfl⟩
    ·have bC:decide ((0:Int)<((([]:List (List UInt8)).length:Nat):Int))=false:=rfl;have aG:decide (0<([]:List (List UInt8)).length)=false:=rfl;go_wp2_with fail;go_quiet (fail);go_wp2_with fail;go_roundw;case rel=>exact ⟨i+1,_,rfl,by omega,by omega,K2.below (P7 (Below.refl _ _) _),aB.out.perm,aB.out.round (by simp) aD.out,aQ.trans (E5 (P7 (Below.refl _ _) _) g)⟩
     case measure=>simp only[intOf];omega
    ·rw[List.concat_eq_append]at *;obtain⟨j,hj⟩:=D9 (A'.length);have aR:(A'++[a]).length=j+1:=by rw[hj];simp
     have bC:decide ((0:Int)<((j+1:Nat):Int))=true:=decide_eq_true (by omega);have aG:decide (0<j+1)=true:=decide_eq_true (by omega);have HJ:=Lib.hid hj;have bM:j+1≤i:=by have:=aD.out;omega
     have bN:j+1<n:=by omega
     have bO:j<n:=by omega
     have bD:wrap64 (((j+1:Nat):Int)-1)=(j:Int):=by unfold wrap64;omega
     rw[aR];clear hj aR;go_wp2_with fail;have S1:=Nq wr;have K3:=K2.below S1;refine Ij (fun W=>KB W g (A'++[a]++x::(B++C)) tl) ?_;refine Cn (A:=?bP) [0,1,2,3,4,5,6,7,8,9,10,11,12,13] K3 (fun W hW=>?bE) ?bQ;case bE=>
      have f1:C4 W ⟨g,(j+1)*32,none⟩ 32=some (c8 x):=hW.row (by rw[HJ.out];simp);have f2:C4 W ⟨g,j*32,none⟩ 32=some (c8 a):=hW.row (by rw[HJ.out];simp);exact Fa
     have aS:x.length=32:=K2.1 x (by simp);have aT:a.length=32:=K2.1 a (by simp);have aU:=aQ.trans (E5 S1 g);obtain⟨cv,aH⟩:=D9 (Lib.compareBytes x a);refine Q6 14 fun Q' hQ'=>?_;dsimp only[C6];have aV:=Lib.hid hQ';clear hQ';go_wp2_with fail;refine (B5f x a aS aT wr.drew).mono ?_;rintro y w4 ⟨rfl,b4⟩;rw[←aH];have K4:=K3.below b4;have aI:=aU.trans (E5 b4 g);have HC:=Lib.hid aH;clear aH b4 S1 aU K3;go_wp2_with fail;refine aV.out _ _ K4 ?_;clear aV;refine Q6 15 fun Q' hQ'=>?_;dsimp only[C6];go_wp2_with fail;refine hQ' _ _ K4 ?_;clear hQ';refine Q6 16 fun Q' hQ'=>?_;dsimp only[C6];go_wp2_with fail;refine hQ' _ _ K4 ?_;clear hQ';refine Gn ?_;obtain⟨bv,aJ⟩:=D9 (decide (cv<0));rw[←aJ];have HB:Hid (bv=true↔blt x a):=Lib.hid (by unfold blt;rw[←HC.out,aJ];simp);clear aJ;cases bv with
     | true=>
      go_wp2_with fail;have S5:=Nq w4;have K5:=K4.below S5;refine Ij (fun _=>True) ?_;refine Cn (A:=?bR) [0,1,2,3,4,5,6,7,8,10,11,12] trivial (fun W hW=>?bF) ?bS;case bF=>
       exact Fa
      refine Cf [zv 9 46 (A8 a),zv 13 50 (A8 x)] (by kernel_rfl) (fun _ _=>trivial) ?mo ?st ?re;case mo=>exact Mp ⟨Jp _ _ _,Mp ⟨Jp _ _ _,fun _ h=>by cases h⟩⟩
      case st=>
       refine Mp ⟨?s9,Mp ⟨?bG,fun _ h=>by cases h⟩⟩;case s9=>
        intro o ho us W hW hp Q' hQ';obtain rfl:=Option.some.inj ho;clear hp ho;have f2:C4 W ⟨g,j*32,none⟩ 32=some (c8 a):=(K5.below hW).row (by rw[HJ.out];simp);rw[D8]at hQ' ⊢;dsimp only[C6,O6,List.foldl,zv]at hQ' ⊢;simp only[Nv];go_wp2_with fail;exact FE' (hQ' _ _ (Below.refl _ _) rfl nofun)
       case bG=>intro o ho us W hW hp Q' hQ';obtain rfl:=Option.some.inj ho;clear hp ho;have f1:C4 W ⟨g,(j+1)*32,none⟩ 32=some (c8 x):=(K5.below hW).row (by rw[HJ.out];simp);rw[D8]at hQ' ⊢;dsimp only[C6,O6,List.foldl,zv]at hQ' ⊢;simp only[Nv];go_wp2_with fail;exact FE' (hQ' _ _ (Below.refl _ _) rfl nofun)
      intro vs w8 b8 aK aL bH;have aW:vs 9=A8 a:=aK _ (Yi 0 rfl);have aX:vs 13=A8 x:=aK _ (Yi 1 rfl);rw[D8];dsimp only[O6,List.foldl,zv];simp only[Nv];rw[aW,aX];have K8:=K5.below b8;have aY:=(aI.trans (E5 S5 g)).trans (E5 b8 g);clear aK aL bH aW aX K5 K4 aI b8 S5;refine Cn (A:=?bT) [14] trivial (fun W hW=>?bI) ?bU;case bI=>
       simp only[List.append_eq,Nw,pick,Se];repeat (go_big_quiet_step (fail))
       refine wpQuiet_nil ?_;rfl
      have aA:(A'++[a]++x::(B++C)).length=j+(2+(B++C).length):=by rw[HJ.out];simp;omega
      have bX:F9 w8 ⟨g,(j+1)*32,none⟩ 32=true:=K8.can (by rw[aA];omega);have K9:=K8.put (i:=j+1) (by rw[aA];omega) aT;have aZ:=aY.trans (A1c w8 g ((j+1)*32) (c8 a));have bY:=K9.can (i:=j) (by rw[List.length_set,aA];omega);have bA:=K9.put (i:=j) (by rw[List.length_set,aA];omega) aS;have aM:=aZ.trans (A1c _ g (j*32) (c8 x));have aC:((A'++[a]++x::(B++C)).set (j+1) a).set j x=A'++x::(a::B++C):=by rw[HJ.out,List.append_assoc,List.set_append_right _ _ (by omega),List.set_append_right _ _ (by omega)];simp
      rw[aC]at bA;clear K9 K8 aY aZ aC aA;refine Q6 15 fun Q' hQ'=>?_;dsimp only[C6];go_wp2_with fail;refine hQ' _ _ trivial ?_;clear hQ';refine Cn (A:=?bZ) [16] trivial (fun W hW=>?bJ) ?cA;case bJ=>
       simp only[List.append_eq,Nw,pick,Se];repeat (go_big_quiet_step (fail))
       refine wpQuiet_nil ?_;rfl
      refine Q6 17 fun Q' hQ'=>?_;dsimp only[C6];go_wp2_with fail;refine hQ' _ _ trivial ?_;clear hQ';refine Gn ?_;go_wp2_with fail;go_roundw;case rel=>exact ⟨A',x,a::B,C,by rw[HJ.out],by have:=aD.out;have:=HJ.out;simp only[List.length_append,List.length_cons,List.length_nil]at *;omega,bA,aB.out.down (HB.out.1 trivial),aM⟩
      case measure=>simp only[intOf];omega
     | false=>
      go_wp2_with fail;go_roundw;case rel=>exact ⟨i+1,_,rfl,by omega,by omega,K4,aB.out.perm,aB.out.round (aB.out.above (fun h=>by have:=HB.out.2 h;cases this) nd) aD.out,aI⟩
      case measure=>simp only[intOf];omega
  ·have hid:decide ((i:Int)<(n:Int))=false:=decide_eq_false (by omega);have aF:=decide_eq_false hi;have bB:l.take i=l:=List.take_of_length_le (by omega);rw[bB]at hs;have HP:=Lib.hid hp;have HS:=Lib.hid hs;clear hp hs aE bB;go_wp2_with fail
   (try simp only[Exit.inBlock,Exit.then])
   exact bodyPost_end (results_none rfl _ _ _) rfl ⟨rfl,l,K,HP.out,HS.out,hg⟩
theorem B9h (A:Option Addr) (c:Nat) (w:World):Calls Tryz.prog 112 #[.slice A 0 c,.int .i64 0,.int .i64 0,.func (.func 30) #[] #[]] w fun x w'=>x=.returned (.tuple #[])∧w'=w:=by
 go_enter Tryz.func112,Tryz.ntmps112;go_wp2_with fail;refine wp_loop_rounds 1 ?_;rw[rounds_succ];go_wp2_with fail;exact bodyPost_end (results_none rfl _ _ _) rfl ⟨rfl,rfl⟩
theorem B6f (base:Nat) (v:Value) (ks:List (List UInt8)) (w:World) (h:OwnK w base v ks) (hm:ks.length≤12) (nd:ks.Nodup) :
 Calls Tryz.prog 112 #[v,.int .i64 0,.int .i64 (ks.length:Int),.func (.func 30) #[] #[]] w fun x w'=>x=.returned (.tuple #[])∧∃l,OwnK w' base v l∧l.Perm ks∧l.Pairwise blt∧w.grownBy w' v.ownBlock:=by
 rcases h.2.2 with ⟨rfl,hn⟩ | ⟨g,cap,cur,rfl,hb,hh,h1,h2,h3,h4⟩
 ·have aA:=List.eq_nil_of_length_eq_zero hn;subst aA;refine (B9h none 0 w).mono ?_;rintro x w' ⟨rfl,rfl⟩;exact ⟨rfl,[],h,List.Perm.refl _,List.Pairwise.nil,⟨rfl,rfl,rfl,Nat.le_refl _,fun _ _ _=>rfl⟩⟩
 ·have hk:KB w g ks (cur.toList.drop (ks.length*32)):=⟨h.1,by unfold Bk;rw[hh,←h4,List.take_append_drop]⟩;refine (B7x g cap ks.length ks _ w hk rfl hm nd).mono ?_;rintro x w' ⟨rfl,l,k,p,s,hg⟩;have hl:=p.length_eq;refine ⟨rfl,l,⟨k.1,by simp[Cc k.1],.inr ⟨g,cap,(c8 l.flatten++cur.toList.drop (ks.length*32)).toArray,by rw[hl],hb,k.2,by rw[hl];exact h1,h2,?_,?_⟩⟩,p,s,hg⟩
  ·have e:=congrArg List.length h4;simp only[List.length_take,Array.length_toList,C1,Cc h.1]at e;simp only[List.size_toArray,List.length_append,C1,Cc k.1,List.length_drop,Array.length_toList];omega
  ·rw[List.take_append_of_le_length (by simp[Cc k.1]),List.take_of_length_le (by simp[Cc k.1])]
theorem D4y (base:Nat) (v:Value) (ks:List (List UInt8)) (n:Nat) (m:Int) (w:World) (h:OwnK w base v ks) (hn:ks.length=n) (hm:n≤12) (nd:ks.Nodup) :
 Calls Tryz.prog 69 #[v,.int .i64 0,.int .i64 (n:Int),.int .i64 m,.func (.func 30) #[] #[]] w fun x w'=>x=.returned (.tuple #[])∧∃l,OwnK w' base v l∧l.Perm ks∧l.Pairwise blt∧w.grownBy w' v.ownBlock:=by
 have hc:=Lib.hid (B6f base v ks w h (by omega) nd);rw[hn]at hc;obtain⟨A,c,rfl,-,-⟩:=h.form;rw[hn]at hc ⊢;have aA:decide ((n:Int)≤12)=true:=decide_eq_true (by omega);clear h hn;go_enter Tryz.func69,Tryz.ntmps69;go_wp2_with fail;refine wp_loop_rounds 1 ?_;rw[rounds_succ];go_wp2_with fail;refine hc.out.mono ?_;rintro x w' ⟨rfl,hx⟩;go_wp2_with fail;exact bodyPost_ret (results_none rfl _ _ _) rfl ⟨rfl,hx⟩
theorem D5u (w:World) (raw:Result Next) (d:Array UInt8) (k:IntKind) (i:Int) (h:0≤i∧i<d.toList.length):D3n w raw (.string ⟨d⟩) (.int k i)=.ok (.value (.int .u8 (n8 (g8 d.toList i.toNat)))) w:=if_pos h
theorem A9m (n:Nat) (hn:n≤12) (w:World):Calls Tryz.prog 121 #[.int .u64 (n:Int)] w fun x w'=>(∃m,x=.returned (.int .i64 m))∧w'=w:=by
 have h:n=0∨n=1∨n=2∨n=3∨n=4∨n=5∨n=6∨n=7∨n=8∨n=9∨n=10∨n=11∨n=12:=by omega
 rcases h with rfl | rfl | rfl | rfl | rfl | rfl | rfl | rfl | rfl | rfl | rfl | rfl | rfl;all_goals
  go_enter Tryz.func121,Tryz.ntmps121;go_wp2_with fail;rw[D5u _ _ _ _ _ (by decide),Oper.upon_value];go_wp2_with fail;go_ret;exact ⟨⟨_,rfl⟩,rfl⟩
theorem B7b (n:Nat) (hn:n≤12) (w:World):Calls Tryz.prog 70 #[.int .u64 (n:Int)] w fun x w'=>(∃m,x=.returned (.int .i64 m))∧w'=w:=by
 have hc:=Lib.hid (A9m n hn w);go_enter Tryz.func70,Tryz.ntmps70;go_wp2_with fail;refine hc.out.mono ?_;rintro x w' ⟨⟨m,rfl⟩,hw⟩;rw[hw];go_wp2_with fail;go_ret;exact ⟨⟨_,rfl⟩,rfl⟩
theorem C4w (base:Nat) (v:Value) (ks:List (List UInt8)) (w:World) (h:OwnK w base v ks) (hm:ks.length≤12) (nd:ks.Nodup) :
 Calls Tryz.prog 29 #[v,.func (.func 30) #[] #[]] w fun x w'=>x=.returned (.tuple #[])∧∃l,OwnK w' base v l∧l.Perm ks∧l.Pairwise blt∧w.grownBy w' v.ownBlock:=by
 obtain⟨n,hn⟩:∃n,ks.length=n:=⟨_,rfl⟩;have hc:=fun m=>Lib.hid (D4y base v ks n m w h hn (by omega) nd);obtain⟨A,c,rfl,-,-⟩:=h.form;rw[hn]at hc hm ⊢;clear h hn;go_enter Tryz.func29,Tryz.ntmps29;go_wp2_with fail;refine (B7b n hm w).mono ?_;rintro x w1 ⟨⟨m,rfl⟩,hw⟩;rw[hw];clear hw;go_wp2_with fail;refine (hc m).out.mono ?_;rintro x w' ⟨rfl,hx⟩;go_wp2_with fail;exact bodyPost_end (results_none rfl _ _ _) rfl ⟨rfl,hx⟩
end
section
theorem Zb {us:List UV} {u:UV} {L:List En}:applyE (us++[u]) L=Cq (applyE us L) u:=by simp[applyE]
theorem Im {us:List UV} {u:UV} {L:List En} {x:List UInt8}:moreE (us++[u]) L x=moreE us L x++if Df (lookE (applyE us L) u.id) u=true∧u.id=x then [u] else []:=by
 unfold moreE;rw[Xt,List.filter_append];congr 1;by_cases h:Df (lookE (applyE us L) u.id) u=true
 ·by_cases e:u.id=x<;>simp[h,e]
 ·simp[h]
theorem C1h {w w':World} {base b sz n:Nat} {T:TypeId} {v:Value} {xs:List Value} (h:w.ownsRow base T sz v n xs) (hg:w.grownBy w' (some b)) (hb:b<base):w'.ownsRow base T sz v n xs:=
 World.ownsRow.kept h hg (by
  cases hv:v.ownBlock with
  | none=>exact .inl rfl
  | some k=>
   refine .inr fun e=>?_;injection e with e;have:=(h.lt k hv).1;omega)
abbrev gd0 (m : List UInt8 → Option Value) (x : List UInt8) : Value := (m x).getD (.slice none 0 0)
structure StI (w wr : World) (dc : List Value) (L : List En) (pre : List UV) (iv : Value) (S : List (List UInt8)) (m1 m2 : List UInt8 → Option Value) (n : Nat) : Prop where
 box:Bk wr w.heap.size 34 dc
 more:MapV wr (w.heap.size+1) n m2
 now:MapV wr (w.heap.size+2) n m1
 ids:OwnK wr (w.heap.size+3) iv S
 nw:∀x v,m1 x=some v→OwnK wr (w.heap.size+3) v (lookE (applyE pre L) x)∧0<(lookE (applyE pre L) x).length∧(v.ownBlock=none∨v.ownBlock≠iv.ownBlock)
 nw0:∀x,m1 x=none→moreE pre L x=[]
 mr:∀x,OwnU wr (w.heap.size+3) (gd0 m2 x) (moreE pre L x)
 ap:∀x y,x≠y→(gd0 m2 x).ownBlock=none∨(gd0 m2 x).ownBlock≠(gd0 m2 y).ownBlock
 below:Below w.heap.size w wr
 hn:n≤pre.length
section
variable {w wr w' : World} {dc : List Value} {L : List En} {pre : List UV} {iv iv' : Value} {S S' : List (List UInt8)} {m1 m2 : List UInt8 → Option Value} {n : Nat} {u : UV}
theorem StI.z (h:StI w wr dc L pre iv S m1 m2 n):w.heap.size+3≤wr.heap.size:=h.now.lt
theorem StI.up (h:StI w wr dc L pre iv S m1 m2 n) (hb:Below wr.heap.size wr w'):StI w w' dc L pre iv S m1 m2 n:=
 ⟨h.box.below hb h.box.lt,h.more.below hb (Nat.le_refl _),h.now.below hb (Nat.le_refl _),h.ids.below hb (Nat.le_refl _),fun x v e=>⟨(h.nw x v e).1.below hb (Nat.le_refl _),(h.nw x v e).2⟩,h.nw0,fun x=>⟨(h.mr x).1,J7 (h.mr x).2 hb (Nat.le_refl _)⟩,h.ap,C3 h.below hb h.below.size,h.hn⟩
theorem StI.skip (h:StI w wr dc L pre iv S m1 m2 n) (hn:Df (lookE (applyE pre L) u.id) u=false):StI w wr dc L (pre++[u]) iv S m1 m2 n:=by
 have e1:applyE (pre++[u]) L=applyE pre L:=by rw[Zb];unfold Cq;rw[hn];rfl
 have e2:∀x,moreE (pre++[u]) L x=moreE pre L x:=fun x=>by rw[Im,hn];simp
 refine ⟨h.box,h.more,h.now,h.ids,?_,?_,?_,h.ap,h.below,by simp;have:=h.hn;omega⟩
 ·rw[e1];exact h.nw
 ·intro x hx;rw[e2];exact h.nw0 x hx
 ·intro x;rw[e2];exact h.mr x
theorem StI.grow (h:StI w wr dc L pre iv S m1 m2 n) (ho:OwnK w' (w.heap.size+3) iv' S') (hb:Below (w.heap.size+3) wr w') (hg:wr.grownBy w' iv.ownBlock) (hi:iv'.ownBlock=iv.ownBlock∨iv'.ownBlock=some (wr.heap.size+1)):StI w w' dc L pre iv' S' m1 m2 n:=by
 have aA:∀b,b<w.heap.size+3→some b≠iv.ownBlock:=fun b hb e=>by have:=(h.ids.2.lt b e.symm).1;omega
 refine ⟨h.box.below hb (by omega),h.more.kept hg (aA _ (by omega)),h.now.kept hg (aA _ (by omega)),ho,fun x v e=>?_,h.nw0,fun x=>⟨(h.mr x).1,World.ownsRow.kept (h.mr x).2 hg (H6 (h.mr x).2 h.ids.2 (by decide))⟩,h.ap,h.below.trans (hb.mono (by omega)),h.hn⟩;obtain⟨h1,h2,h3⟩:=h.nw x v e;refine ⟨⟨h1.1,World.ownsRow.kept h1.2 hg h3⟩,h2,?_⟩;rcases hi with hi | hi
 ·rw[hi];exact h3
 ·cases hv:v.ownBlock with
  | none=>exact .inl rfl
  | some k=>
   refine .inr fun e2=>?_;rw[hi]at e2;injection e2 with e2;have:=(h1.2.lt k hv).2;omega
theorem StI.acc {w1 w2 w3:World} {kv a:Value} (h:StI w wr dc L pre iv S m1 m2 n) (hn:Df (lookE (applyE pre L) u.id) u=true) (huo:u.Ok) (okL:OkE (applyE pre L))
 (hk:OwnK w1 (w.heap.size+3) kv (lookE (applyE pre L) u.id++[u.key])) (hka:kv.ownBlock=none∨kv.ownBlock≠iv.ownBlock)
 (ha:w1.ownsRow (w.heap.size+3) 69 129 a ((moreE pre L u.id).length+1) ((moreE pre L u.id).flatMap N9++N9 u)) (hb1:Below (w.heap.size+3) wr w1) (hg1:wr.grownBy w1 (gd0 m2 u.id).ownBlock) (hi:a.ownBlock=(gd0 m2 u.id).ownBlock∨a.ownBlock=some wr.heap.size)
 (hg2:w1.grownBy w2 (some (w.heap.size+2))) (hM1:MapV w2 (w.heap.size+2) (n+1) (Sd m1 u.id kv)) (hg3:w2.grownBy w3 (some (w.heap.size+1))) (hM2:MapV w3 (w.heap.size+1) (n+1) (Sd m2 u.id a)) :
 StI w w3 dc L (pre++[u]) iv S (Sd m1 u.id kv) (Sd m2 u.id a) (n+1):=by
 have e1:applyE (pre++[u]) L=Cj u.id u.key (applyE pre L):=by rw[Zb];unfold Cq;rw[hn,if_pos rfl]
 have e2:∀x,lookE (applyE (pre++[u]) L) x=if x=u.id then lookE (applyE pre L) u.id++[u.key] else lookE (applyE pre L) x:=fun x=>by rw[e1,Co okL huo.id huo.key]
 have e3:∀x,moreE (pre++[u]) L x=if x=u.id then moreE pre L u.id++[u] else moreE pre L x:=fun x=>by
  rw[Im];by_cases e:x=u.id
  ·subst e;rw[if_pos ⟨hn,rfl⟩,if_pos rfl]
  ·rw[if_neg (fun h=>e h.2.symm),if_neg e,List.append_nil]
 have aA:∀b,b<w.heap.size+3→b≠w.heap.size+1→b≠w.heap.size+2→w3.heap[b]?=wr.heap[b]?:=fun b hb h1 h2=>by
  have hz:=h.z;rw[hg3.block b (by have:=hg1.size;have:=hg2.size;omega) (fun e=>by injection e with e;omega),hg2.block b (by have:=hg1.size;omega) (fun e=>by injection e with e;omega),hb1.block b hb]
 have far:∀ {T:TypeId} {sz k:Nat} {v:Value} {xs:List Value},w1.ownsRow (w.heap.size+3) T sz v k xs→w3.ownsRow (w.heap.size+3) T sz v k xs:=fun h=>C1h (C1h h hg2 (by omega)) hg3 (by omega);have k1:∀ {v:Value} {ks:List (List UInt8)},OwnK wr (w.heap.size+3) v ks→OwnK w3 (w.heap.size+3) v ks:=fun h'=>⟨h'.1,far (World.ownsRow.kept h'.2 hg1 (H6 h'.2 (h.mr u.id).2 (by decide)))⟩;refine ⟨?_,hM2,hM1.kept hg3 (fun e=>by injection e with e;omega),k1 h.ids,?_,?_,?_,?_,?_,by simp;have:=h.hn;omega⟩
 ·have:=h.box;unfold Bk at this ⊢;rw[aA _ (by omega) (by omega) (by omega)];exact this
 ·intro x v hv;rw[e2];unfold Sd at hv;by_cases e:x=u.id
  ·rw[if_pos e]at hv ⊢;injection hv with hv;subst hv;exact ⟨⟨hk.1,far hk.2⟩,by simp,hka⟩
  ·rw[if_neg e]at hv ⊢;obtain⟨h1,h2,h3⟩:=h.nw x v hv;exact ⟨k1 h1,h2,h3⟩
 ·intro x hx;rw[e3];unfold Sd at hx;by_cases e:x=u.id
  ·rw[if_pos e]at hx;cases hx
  ·rw[if_neg e]at hx ⊢;exact h.nw0 x hx
 ·intro x;rw[e3];unfold gd0 Sd;by_cases e:x=u.id
  ·rw[if_pos e,if_pos e,Option.getD_some];refine ⟨fun y hy=>?_,by simpa using far ha⟩;rcases List.mem_append.1 hy with hy | hy
   ·exact (h.mr u.id).1 y hy
   ·obtain rfl:=List.mem_singleton.1 hy;exact huo
  ·rw[if_neg e,if_neg e];exact ⟨(h.mr x).1,far (World.ownsRow.kept (h.mr x).2 hg1 (h.ap x u.id e))⟩
 ·intro x y aB;have aC:∀z,(gd0 m2 z).ownBlock=none∨(gd0 m2 z).ownBlock≠some wr.heap.size:=fun z=>by
   cases hv:(gd0 m2 z).ownBlock with
   | none=>exact .inl rfl
   | some k=>
    refine .inr fun e2=>?_;injection e2 with e2;have:=((h.mr z).2.lt k hv).2;omega
  unfold gd0 Sd;by_cases ex:x=u.id
  ·have ey:¬ y=u.id:=fun e=>aB (by rw[ex,e]);rw[if_pos ex,if_neg ey,Option.getD_some];rcases hi with hi | hi
   ·rw[hi];exact h.ap u.id y (fun e=>ey e.symm)
   ·rw[hi];refine .inr fun e=>?_;rcases aC y with h1 | h1
    ·unfold gd0 at h1;rw[h1]at e;cases e
    ·exact h1 e.symm
  ·rw[if_neg ex];by_cases ey:y=u.id
   ·rw[if_pos ey,Option.getD_some];rcases hi with hi | hi
    ·rw[hi];exact h.ap x u.id ex
    ·rw[hi];exact aC x
   ·rw[if_neg ey];exact h.ap x y aB
 ·have b3:Below w.heap.size wr w3:=⟨by rw[hg3.os,hg2.os,hg1.os],by rw[hg3.tape,hg2.tape,hg1.tape],by rw[hg3.output,hg2.output,hg1.output],by have:=hg1.size;have:=hg2.size;have:=hg3.size;omega,fun b hb=>aA b (by omega) (by omega) (by omega)⟩;exact h.below.trans b3
end
end
end Go.Proofs.YtmllnpokbbabhaaGreat
