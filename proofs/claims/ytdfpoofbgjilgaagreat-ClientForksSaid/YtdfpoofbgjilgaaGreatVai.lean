/- A part of the proof of ClientForks. -/
import Derived.LoopN
import Derived.Test.YtdfpoofbgjilgaaGreatVah
set_option linter.unusedVariables false
set_option linter.unusedSimpArgs false
set_option maxRecDepth 100000
set_option maxHeartbeats 40000000
namespace Go.Proofs.YtdfpoofbgjilgaaGreat
open Go Go.RowKit Sh
section
variable {P : Program} {g : Cfg} {S : World → Prop} {ops : List Oper} {evs : List SEv} {s0 : St} {ρ : List Av} {μ0 : Nat → Nm} {w0 : World} {D : Nat → Bool} {μ : Nat → Nm} {a : Act} {w : World} {i : Nat} {o : Oper} {ev : SEv}
theorem B1k {a:Act} {t d:Nat} {v:Value}:(a.put (some d) v).tmps.getD t undef=if d=t∧t<a.tmps.size then v else a.tmps.getD t undef:=by
 unfold Act.put;simp only[Array.getD_eq_getD_getElem?];by_cases h:d=t
 ·subst h;by_cases hl:d<a.tmps.size
  ·rw[if_pos ⟨rfl,hl⟩,Array.getElem?_setIfInBounds_self_of_lt hl];rfl
  ·rw[if_neg (by simp[hl]),Array.getElem?_eq_none (by simpa using hl),Array.getElem?_eq_none (by simpa using hl)]
 ·rw[if_neg (fun h'=>h h'.1),Array.getElem?_setIfInBounds_ne h]
theorem C5y {Φ:Fcts} {n:Nat} {μ μ':Nat→Nm} {W:World} (h:μ n=μ' n) (hs:∀m∈Φ.sup n,μ m=μ' m):Φ.at n μ W=Φ.at n μ' W:=by
 unfold Fcts.at;congr 1;exact List.map_congr_left fun m hm=>by
  rcases List.mem_cons.1 hm with rfl | hm
  ·exact h
  ·exact hs m hm
theorem B0t (hr:RegOk g.f.sup ops s0 evs) (hwb:∀(i:Nat) (o:Oper) (ev:SEv),ops[i]?=some o→evs[i]?=some ev→B1l (U3 ops evs s0 i) ev) (hI:RInv P g.f S ops evs s0 ρ μ0 w0 D μ a w) (ho:ops[i]?=some o) (he:evs[i]?=some ev) (hi:D i=false)
 (hp:∀e∈o.after,Region.binds .any e=true→D e.on=true) {μ':Nat→Nm} {w':World} (hE:Fs ρ g.f S (U3 ops evs s0 i) (U3 ops evs s0 i).h.length ev μ w μ' w') :
 RInv P g.f S ops evs s0 ρ μ0 w0 (Db D i) μ' (a.put o.dst (ev.val.val ρ μ')) w':=by
 have bD:=(List.getElem?_eq_some_iff.1 ho).1;have aN:=(Jh (s0:=s0) hr.len i (by omega)).1;rw[aN]at hE;have aO:∀j,((closB ops []).getD i 0).testBit j=true→D j=true:=Mv hr.inn hr.clo hI.dc i o ho hp;have aH:=B1y hr.ok ho he;unfold D3z at aH;simp only[Bool.and_eq_true]at aH;obtain⟨aP,⟨aQ,aI⟩,aZ⟩:=aH;have hμ:∀b,(decide (b<s0.h.length)||D (b-s0.h.length))=true→μ b=μ' b:=by
  intro b hb;unfold Fs at hE;have aU:(b != s0.h.length+i)=true:=by
   simp only[bne_iff_ne,ne_eq];intro e;subst e;rw[Nat.add_sub_cancel_left,hi]at hb;simp only[Bool.or_false,decide_eq_true_eq]at hb;omega
  split at hE
  ·rcases hE.2 with ⟨_,h2⟩ | ⟨_,x,h2,_⟩
   ·rw[h2]
   ·rw[h2];exact A6g aU
  ·rcases hE.2 with ⟨_,h2,_⟩ | ⟨_,_,h2,_⟩
   ·rw[h2];exact A6g aU
   ·rw[h2]
 have aB:w.grownBy w' none∨∃b T cs,ev.wb=some (b,T,cs)∧b∈ev.rb∧(∃T0 cs0,(U3 ops evs s0 i).blk b=some (T0,cs0))∧μ'=μ∧w.grownBy w' (some (μ b).b):=by
  unfold Fs at hE;split at hE
  ·exact .inl ⟨hE.1.os,hE.1.tape,hE.1.output,hE.1.size,fun k hk _=>hE.1.block k hk⟩
  ·rename_i b T cs hx
   rcases hE.2 with ⟨_,_,h3,_⟩ | ⟨h1,h2,h3,h4,_⟩
   ·exact .inl ⟨h3.os,h3.tape,h3.output,h3.size,fun k hk _=>h3.block k hk⟩
   ·exact .inr ⟨b,T,cs,hx,h1,h2,h3,h4⟩
 have aE:w.heap.size≤w'.heap.size:=by rcases aB with h | ⟨_,_,_,_,_,_,_,h⟩<;>exact h.size
 have aJ:∀b T cs,hD ops evs s0 D b=some (T,cs)→(∀x,ev.wb=some x→x.1≠b)→Bk w' (μ' b).b T (cellsL ρ μ' cs):=by
  intro b T cs hb hx;have h1:=hI.bl b T cs hb;have h2:=hI.nB b T cs hb;have aD:=hI.nmD b (by rw[hb];rfl);rw[←hμ b (by simp only[Bool.or_eq_true,decide_eq_true_eq];exact aD),←Dq hμ h2];rcases aB with h | ⟨b',T',cs',hx',hrb,⟨T0,cs0,hbk⟩,h3,h4⟩
  ·exact h1.grown h (by simp)
  ·refine h1.grown h4 fun e=>?_;injection e with e;have h5:=A4c hr hwb hI ho he hi hp hrb;have:=hI.inj b b' (by rw[hb];rfl) (by rw[h5,hbk];rfl) e;exact hx _ hx' this.symm
 have aA:∀b,(∀x,ev.wb=some x→x.1≠b)∨∃T cs,ev.wb=some (b,T,cs):=by
  intro b;cases hx:ev.wb with
  | none=>exact .inl fun x h=>by cases h
  | some x=>
   by_cases hb:x.1=b
   ·subst hb;exact .inr ⟨x.2.1,x.2.2,rfl⟩
   ·exact .inl fun y h=>by cases h;exact hb
 have aC:∀b T cs,ev.wb=some (b,T,cs)→Bk w' (μ' b).b T (cellsL ρ μ' cs)∧((b=s0.h.length+i∧(μ' b).b=w.heap.size)∨(μ'=μ∧∃T0 cs0,hD ops evs s0 D b=some (T0,cs0))):=by
  intro b T cs hx;unfold Fs at hE;rw[hx]at hE;rcases hE.2 with ⟨h1,h2,h3,h4⟩ | ⟨h1,⟨T0,cs0,h2⟩,h3,h4,h5,h6⟩
  ·have h7:(μ' b).b=w.heap.size:=by rw[h2,h1];rw[A1h]
   exact ⟨by rw[h7];exact h4,.inl ⟨h1,h7⟩⟩
  ·have h7:=A4c hr hwb hI ho he hi hp h1;exact ⟨by rw[h3];exact h6,.inr ⟨h3,T0,cs0,by rw[h7];exact h2⟩⟩
 have aF:∀n,(decide (n<s0.h.length)||D (n-s0.h.length))=true→(∀m∈g.f.sup n,(decide (m<s0.h.length)||D (m-s0.h.length))=true)→FHeld g.f S (fun b=>(hD ops evs s0 D b).isSome) μ n w→FHeld g.f S (fun b=>(hD ops evs s0 (Db D i) b).isSome) μ' n w':=by
  intro n hn aR ⟨lo,hi2,h0,h1,h2,h3⟩;refine ⟨lo,hi2,h0,Nat.le_trans h1 aE,fun b hb=>?_,fun W hsz hk hSW=>?_⟩
  ·replace hb:(hD ops evs s0 (Db D i) b).isSome=true:=hb;rcases aA b with hx | ⟨T',cs',hx⟩
   ·rw[Dg he hx]at hb;have aD:=hI.nmD b hb;rw[←hμ b (by simp only[Bool.or_eq_true,decide_eq_true_eq];exact aD)];exact h2 b hb
   ·rcases (aC b _ _ hx).2 with ⟨h4,h5⟩ | ⟨h4,T0,cs0,h5⟩
    ·rw[h5];exact .inr h1
    ·rw[h4];exact h2 b (by show (hD ops evs s0 D b).isSome=true;rw[h5];rfl)
  ·rw[←C5y (hμ n hn) fun m hm=>hμ m (aR m hm)];refine h3 W (Nat.le_trans aE hsz) (fun k hlo hhi=>(hk k hlo hhi).trans ?_) hSW;rcases aB with h | ⟨b,T,cs,hx,hrb,⟨T0,cs0,hbk⟩,h4,h5⟩
   ·exact h.block k (by omega) (by simp)
   ·refine h5.block k (by omega) fun e=>?_;injection e with e;have h6:=A4c hr hwb hI ho he hi hp hrb;have h7:=h2 b (by show (hD ops evs s0 D b).isSome=true;rw[h6,hbk];rfl);omega
 refine ⟨?_,?_,?_,?_,?_,?_,?_,?_,?_,?_,?_,?_,?_,?_,?_,hI.sk⟩
 ·
  intro j oj aS hd e aV hb;simp only[Db,Bool.or_eq_true,decide_eq_true_eq]at hd;rcases hd with rfl | hd
  ·rw[ho]at aS;cases aS;simp[Db,hp e aV hb]
  ·simp[Db,hI.dc j oj aS hd e aV hb]
 ·rw[Tw];exact hI.size
 ·cases hd:o.dst<;>exact hI.df
 ·
  intro t x hx bA;by_cases ht:o.dst=some t
  ·rw[A5e hr hI ho he hi ht]at hx;injection hx with hx;subst hx;rw[ht,B1k,if_pos ⟨rfl,by rw[hI.size];exact hr.dstlt i o ev ho he t ht⟩]
  ·rw[A5j ho ht]at hx;have h1:=hI.tm t x hx bA;rw[←SV.val_congr hμ (hI.nT t x hx),←h1];cases hd:o.dst with
   | none=>rfl
   | some d=>
    rw[B1k,if_neg];intro h2;exact ht (by rw[hd,h2.1])
 ·
  intro b T cs hb;rcases aA b with hx | ⟨T',cs',hx⟩
  ·rw[Dg he hx]at hb;exact aJ b T cs hb hx
  ·rw[A3q hr hI ho he hi hx]at hb;cases hb;exact (aC b _ _ hx).1
 ·
  have aK:∀b,(hD ops evs s0 D b).isSome=true→(μ b).b<w.heap.size:=by intro b hb;obtain⟨x,hx⟩:=Option.isSome_iff_exists.1 hb;exact (hI.bl b x.1 x.2 hx).lt
  have aG:∀b,(hD ops evs s0 (Db D i) b).isSome=true→((hD ops evs s0 D b).isSome=true∧(μ' b).b=(μ b).b)∨(b=s0.h.length+i∧(μ' b).b=w.heap.size):=by
   intro b hb;rcases aA b with hx | ⟨T',cs',hx⟩
   ·rw[Dg he hx]at hb;have aD:=hI.nmD b hb;exact .inl ⟨hb,by rw[←hμ b (by simp only[Bool.or_eq_true,decide_eq_true_eq];exact aD)]⟩
   ·rcases (aC b _ _ hx).2 with h | ⟨h,T0,cs0,h2⟩
    ·exact .inr h
    ·exact .inl ⟨by rw[h2];rfl,by rw[h]⟩
  intro b b' hb bB bE;rcases aG b hb with ⟨h1,h2⟩ | ⟨h1,h2⟩<;>rcases aG b' bB with ⟨h3,h4⟩ | ⟨h3,h4⟩
  ·exact hI.inj b b' h1 h3 (by omega)
  ·have:=aK b h1;omega
  ·have:=aK b' h3;omega
  ·omega
 ·
  intro t x hx;by_cases ht:o.dst=some t
  ·rw[A5e hr hI ho he hi ht]at hx;injection hx with hx;subst hx;exact SV.okn_mono (fun b hb=>A8p hb aO) aQ
  ·rw[A5j ho ht]at hx;exact SV.okn_mono (fun b hb=>A7s hb) (hI.nT t x hx)
 ·
  intro b T cs hb;rcases aA b with hx | ⟨T',cs',hx⟩
  ·rw[Dg he hx]at hb;exact Oh (fun b hb=>A7s hb) (hI.nB b T cs hb)
  ·rw[A3q hr hI ho he hi hx]at hb;cases hb;rw[hx]at aI;exact Oh (fun b hb=>A8p hb aO) aI
 ·
  rcases aB with h | ⟨b,T,cs,hx,hrb,⟨T0,cs0,hbk⟩,h3,h4⟩
  ·exact hI.kp.trans_below ⟨h.os,h.tape,h.output,h.size,fun k hk=>h.block k hk (by simp)⟩
  ·have h5:=A4c hr hwb hI ho he hi hp hrb;have hs:(hD ops evs s0 D b).isSome=true:=by rw[h5,hbk];rfl
   refine hI.kp.trans_grown h4 ?_;rcases Nat.lt_or_ge b s0.h.length with h6 | h6
   ·exact .inr ⟨b,hI.ini b hs h6,by rw[hI.old b h6]⟩
   ·exact .inl (hI.new b hs h6)
 ·
  intro b hb;rw[←hμ b (by simp[hb])];exact hI.old b hb
 ·
  intro b hb aW;rcases aA b with hx | ⟨T',cs',hx⟩
  ·rw[Dg he hx]at hb;have aD:=hI.nmD b hb;rw[←hμ b (by simp only[Bool.or_eq_true,decide_eq_true_eq];exact aD)];exact hI.new b hb aW
  ·rcases (aC b _ _ hx).2 with ⟨h1,h2⟩ | ⟨h,T0,cs0,h2⟩
   ·rw[h2];exact hI.kp.size
   ·rw[h];exact hI.new b (by rw[h2];rfl) aW
 ·
  intro b hb aX;rcases aA b with hx | ⟨T',cs',hx⟩
  ·rw[Dg he hx]at hb;exact hI.ini b hb aX
  ·rcases (aC b _ _ hx).2 with ⟨h1,h2⟩ | ⟨h,T0,cs0,h2⟩
   ·omega
   ·exact hI.ini b (by rw[h2];rfl) aX
 ·
  intro b hb;rcases aA b with hx | ⟨T',cs',hx⟩
  ·rw[Dg he hx]at hb;rcases hI.nmD b hb with h | h
   ·exact .inl h
   ·exact .inr (by simp[Db,h])
  ·rcases (aC b _ _ hx).2 with ⟨h1,h2⟩ | ⟨h,T0,cs0,h2⟩
   ·exact .inr (by simp[Db,h1])
   ·rcases hI.nmD b (by rw[h2];rfl) with h | h
    ·exact .inl h
    ·exact .inr (by simp[Db,h])
 ·
  intro n hn;obtain⟨h1,h2⟩:=hI.fx0 n hn;exact ⟨h1,aF n (by simp[h1.1]) (fun m hm=>by simp[h1.2 m hm]) h2⟩
 ·
  intro j bC aT aM aY;by_cases hji:j=i
  ·subst hji;rw[he]at aT;cases aT;unfold Fs at hE;cases hx:ev.wb with
   | some x=>rw[hx]at hE;rw[aM]at hE;cases hE.1
   | none=>
    rw[hx]at hE;rcases hE.2 with ⟨h1,_⟩ | ⟨_,x,h2,h3⟩
    ·rw[aM]at h1;cases h1
    ·refine ⟨fun m hm=>?_,w.heap.size,w'.heap.size,fun base hbase=>hbase w (hI.sk w hI.kp),Nat.le_refl _,fun b hb=>?_,fun W hsz hk hSW=>?_⟩
     ·have h4:(g.f.sup (s0.h.length+j)).all (A5p s0.h.length j ((closB ops []).getD j 0))=true:=by simpa [aM] using aP
      exact A8p (List.all_eq_true.1 h4 m hm) aO
     ·replace hb:(hD ops evs s0 (Db D j) b).isSome=true:=hb;rw[Dg he (by intro y hy;rw[hx]at hy;cases hy)]at hb;have aD:=hI.nmD b hb;obtain⟨y,hy⟩:=Option.isSome_iff_exists.1 hb;rw[←hμ b (by simp only[Bool.or_eq_true,decide_eq_true_eq];exact aD)];exact .inl (hI.bl b y.1 y.2 hy).lt
     ·exact h3 W hsz hk hSW
  ·have aL:D j=true:=by
    simp only[Db,Bool.or_eq_true,decide_eq_true_eq]at aY;rcases aY with h | h
    ·exact absurd h hji
    ·exact h
   obtain⟨h1,h2⟩:=hI.fx1 j bC aT aM aL;exact ⟨fun m hm=>A7s (h1 m hm),aF _ (by simp[aL]) h1 h2⟩
theorem Tp {s:St} {t:Tmp} {y:SV} (h:Y7 s (.tmp t)=some y):s.σ[t]?=some y∧y.known=true:=by
 refine ⟨?_,C2s h⟩;simp only[Y7]at h;cases hx:s.σ[t]? with
 | none=>rw[hx]at h;cases h
 | some z=>
  rw[hx]at h;simp only[Option.bind_some]at h;split at h
  ·exact h
  ·cases h
theorem B5z {v:Value} {y:SV} (h:Fr v=some y) (N:Nat→Bool):y.okn N=true:=by
 unfold Fr at h;split at h
 ·split at h
  ·cases h;simp[SV.okn,Sg.okn]
  ·cases h
 ·cases h
 ·cases h;rfl
theorem C4v {l:List Nat} {n m:Nat}:m∈A2i l n↔m∈l∨m=n:=by
 unfold A2i;split
 ·rename_i h
  have:n∈l:=by simpa using h
  constructor
  ·exact .inl
  ·rintro (h | rfl)
   ·exact h
   ·exact this
 ·simp
theorem Rp:∀(l acc:List Nat) (m:Nat),m∈l.foldl A2i acc↔m∈acc∨m∈l
 | [],acc,m=>by simp
 | n::l,acc,m=>by
  simp only[List.foldl_cons,Rp l,C4v,List.mem_cons];constructor
  ·rintro ((h | h) | h)
   ·exact .inl h
   ·exact .inr (.inl h)
   ·exact .inr (.inr h)
  ·rintro (h | h | h)
   ·exact .inl (.inl h)
   ·exact .inl (.inr h)
   ·exact .inr h
theorem C0y {N:Nat→Bool} {x:Sg} (h:x.okn N=true):∀n∈x.names,N n=true:=by
 cases x<;>intro n hn<;>simp[Sg.names]at hn<;>subst hn<;>exact h
theorem Qw {N:Nat→Bool} {l:List Sg} (h:l.all (·.okn N)=true):∀n∈l.flatMap Sg.names,N n=true:=by
 intro n hn;obtain⟨x,hx,aA⟩:=List.mem_flatMap.1 hn;exact C0y (List.all_eq_true.1 h x hx) n aA
theorem SV.names_okn {N:Nat→Bool} {y:SV} (h:y.okn N=true):∀n∈y.names,N n=true:=by
 cases y with
 | v a l=>exact Qw h
 | tup l=>
  intro n hn;obtain⟨x,hx,aA⟩:=List.mem_flatMap.1 hn;exact Qw (List.all_eq_true.1 h x hx) n aA
 | any=>intro n hn;cases hn
theorem Kn {s:St} {sup:Nat→List Nat}:∀(l acc:List Nat) (m:Nat),m∈l.foldl (fun acc n=>(Ui s sup n).foldl A2i acc) acc↔m∈acc∨∃n∈l,m∈Ui s sup n
 | [],acc,m=>by simp
 | n::l,acc,m=>by
  rw[List.foldl_cons,Kn l,Rp];constructor
  ·rintro ((h | h) | ⟨k,hk,h⟩)
   ·exact .inl h
   ·exact .inr ⟨n,by simp,h⟩
   ·exact .inr ⟨k,by simp[hk],h⟩
  ·rintro (h | ⟨k,hk,h⟩)
   ·exact .inl (.inl h)
   ·rcases List.mem_cons.1 hk with rfl | hk
    ·exact .inl (.inr h)
    ·exact .inr ⟨k,hk,h⟩
theorem A2g {s:St} {sup:Nat→List Nat}:∀(k:Nat) (l:List Nat) (m:Nat),m∈l→m∈Nt s sup k l
 | 0,l,m,h=>h
 | k+1,l,m,h=>by
  unfold Nt;exact A2g k _ m ((Kn l l m).2 (.inl h))
theorem B0l {s:St} {sup:Nat→List Nat} {N:Nat→Bool} {F:List Nat} (hF:∀n∈F,N n=true→∀m∈Ui s sup n,N m=true):∀(k:Nat) (l:List Nat),(∀m∈Nt s sup k l,m∈F)→(∀m∈l,N m=true)→∀m∈Nt s sup k l,N m=true
 | 0,l,_,hl,m,hm=>hl m hm
 | k+1,l,hs,hl,m,hm=>by
  unfold Nt at hs hm;refine B0l hF k _ hs (fun n hn=>?_) m hm;rcases (Kn l l n).1 hn with h | ⟨b,hb,h2⟩
  ·exact hl n h
  ·exact hF b (hs b (A2g k _ b ((Kn l l b).2 (.inl hb)))) (hl b hb) n h2
theorem Sw (hl:ops.length=evs.length):∀(k:Nat),k≤ops.length→∀n∈(U3 ops evs s0 k).dy,n∈s0.dy∨∃j ev,j<k∧evs[j]?=some ev∧ev.dy=true∧n=s0.h.length+j
 | 0,_,n,hn=>.inl hn
 | k+1,h,n,hn=>by
  have ho:ops[k]?=some (ops[k]'(by omega)):=List.getElem?_eq_getElem (by omega);have he:evs[k]?=some (evs[k]'(by omega)):=List.getElem?_eq_getElem (by omega);have aA:=(Jh (s0:=s0) hl k (by omega)).1;unfold U3 at hn;rw[ho,he]at hn;simp only[He]at hn;split at hn
  ·rename_i hdy
   rcases List.mem_append.1 hn with hn | hn
   ·rcases Sw hl k (by omega) n hn with h1 | ⟨j,ev,h1,h2⟩
    ·exact .inl h1
    ·exact .inr ⟨j,ev,by omega,h2⟩
   ·rw[List.mem_singleton.1 hn,aA];exact .inr ⟨k,_,by omega,he,hdy,rfl⟩
  ·rcases Sw hl k (by omega) n hn with h1 | ⟨j,ev,h1,h2⟩
   ·exact .inl h1
   ·exact .inr ⟨j,ev,by omega,h2⟩
theorem C1x {nm na:Nat} {s:St} {ev:SEv} (h:Zg P g ρ nm na s o=some ev) {q:Rq} (hq:ev.rq=some q) (hk:D4a o ev=true):∃xs,q.dep=Hy s g.f.sup xs∧ev.rb=q.dep.bs.map (·.1)∧∀y∈xs,∃x∈o.op.operands.toList,Y7 s x=some y:=by
 have aA:∀(l:List Operand) (ys:List SV),l.mapM (Y7 s)=some ys→∀y∈ys,∃x∈l,Y7 s x=some y:=by
  intro l;induction l with
  | nil=>intro ys h y hy;simp at h;subst h;cases hy
  | cons x l ih=>
   intro ys h y hy;simp only[List.mapM_cons,bind,Option.bind]at h;cases hx:Y7 s x with
   | none=>rw[hx]at h;cases h
   | some z=>
    rw[hx]at h;simp only at h;cases hl:l.mapM (Y7 s) with
    | none=>rw[hl]at h;cases h
    | some zs=>
     rw[hl]at h;cases h;rcases List.mem_cons.1 hy with rfl | hy
     ·exact ⟨x,by simp,hx⟩
     ·obtain⟨x',h1,h2⟩:=ih zs hl y hy;exact ⟨x',by simp[h1],h2⟩
 unfold Zg at h;by_cases hcst:Ug s o=true
 ·rw[if_pos hcst]at h;unfold Zw at h;split at h
  ·rename_i v hv
   cases hc:Fr v with
   | none=>rw[hc]at h;cases h
   | some x=>rw[hc]at h;cases h;cases hq
  ·cases h
 ·rw[if_neg hcst]at h;clear hcst;by_cases hgen:Zt P g ρ nm na s o=none;case pos=>
   rw[hgen]at h;simp only[B5d,bind,Option.bind]at h;cases hmk:B3g o.op with
   | none=>rw[hmk]at h;cases h
   | some mk=>
    rw[hmk]at h;simp only at h;cases hxs:o.op.operands.toList.mapM (Y7 s) with
    | none=>rw[hxs]at h;cases h
    | some xs=>
     rw[hxs]at h;simp only at h;by_cases hdy:B9c o.op=true
     ·rw[if_pos hdy]at h;cases h;cases hq;exact ⟨xs,rfl,rfl,aA _ _ hxs⟩
     rw[if_neg hdy]at h;by_cases ht:o.type=0
     ·rw[if_pos ht]at h;cases h;cases hq;exact ⟨xs,rfl,rfl,aA _ _ hxs⟩
     ·rw[if_neg ht]at h;cases hsh:Sc P g na o.type with
      | none=>rw[hsh]at h;cases h
      | some r=>
       rw[hsh]at h;cases h;cases hq;exact ⟨xs,rfl,rfl,aA _ _ hxs⟩
  obtain⟨aD,aB⟩:=Option.ne_none_iff_exists'.1 hgen;rw[aB]at h;simp only at h;by_cases hns:A7q aD=true;case neg=>rw[if_neg hns]at h;cases h
  rw[if_pos hns]at h;injection h with h;subst h;have h:=aB;clear hgen aB;have aC:(∀op t x y yt,o.op≠.binOp op t x y yt)→(∀c f,o.op=.call c→c.callee≠.value f)→False:=by
   intro hb hc;unfold D4a at hk;unfold A7q at hns;rw[hq]at hk hns;cases q with
   | sem _ _ _ _ _=>cases hns
   | call _ _ _ _ _=>
    simp only at hk;split at hk
    ·rename_i he;exact hb _ _ _ _ _ he
    ·rename_i c he
     split at hk
     ·rename_i f hf;exact hc c f he hf
     ·cases hk
    ·cases hk
   | bin _ _ _ _ _ _=>
    simp only at hk;split at hk
    ·rename_i he;exact hb _ _ _ _ _ he
    ·rename_i c he
     split at hk
     ·rename_i f hf;exact hc c f he hf
     ·cases hk
    ·cases hk
  obtain⟨dst,op,ty,pos,after,guard⟩:=o;unfold Zt at h;cases op<;>(try simp only at h);case binOp bo t x y yt=>
   simp only[bind,Option.bind]at h;cases hx:Y7 s x with
   | none=>rw[hx]at h;cases h
   | some sx=>
    rw[hx]at h;simp only at h;cases hy:Y7 s y with
    | none=>rw[hy]at h;cases h
    | some sy=>
     rw[hy]at h;cases h;cases hq;refine ⟨[sx,sy],rfl,rfl,fun z hz=>?_⟩;rcases List.mem_cons.1 hz with rfl | hz
     ·exact ⟨x,by simp[Op.operands],hx⟩
     ·rw[List.mem_singleton.1 hz];exact ⟨y,by simp[Op.operands],hy⟩
  case call c=>
   split at h
   ·rename_i f hf
    unfold Yh at h;simp only[bind,Option.bind]at h;cases hxs:c.args.toList.mapM (Y7 s) with
    | none=>rw[hxs]at h;cases h
    | some ys=>
     rw[hxs]at h;simp only at h;cases hfn:P.funcs[f]? with
     | none=>rw[hfn]at h;cases h
     | some fn=>
      rw[hfn]at h;simp only at h;cases hsh:Hc P g na fn.resultTypes.toList with
      | none=>rw[hsh]at h;cases h
      | some x=>
       rw[hsh]at h;simp only at h;split at h
       ·cases h;cases hq;refine ⟨ys,rfl,rfl,fun z hz=>?_⟩;obtain⟨x',h1,h2⟩:=aA _ _ hxs z hz;exact ⟨x',by simp[Op.operands,Call.operands];right;simpa using h1,h2⟩
       ·cases h
   ·rename_i hf
    exact absurd (aC (fun _ _ _ _ _ h=>by cases h) (fun c' f' h hf'=>by cases h;rw[hf]at hf';cases hf')) id
   ·rename_i hf
    exact absurd (aC (fun _ _ _ _ _ h=>by cases h) (fun c' f' h hf'=>by cases h;rw[hf]at hf';cases hf')) id
   ·cases h
  all_goals exact absurd (aC (fun _ _ _ _ _ h=>by cases h) (fun _ _ h=>by cases h)) id
theorem E2t (hr:RegOk g.f.sup ops s0 evs) (hwb:∀(i:Nat) (o:Oper) (ev:SEv),ops[i]?=some o→evs[i]?=some ev→B1l (U3 ops evs s0 i) ev) (hI:RInv P g.f S ops evs s0 ρ μ0 w0 D μ a w) (ho:ops[i]?=some o) (he:evs[i]?=some ev) (hi:D i=false)
 (hp:∀e∈o.after,Region.binds .any e=true→D e.on=true) {nm m:Nat} (hab:Zg P g ρ nm m (U3 ops evs s0 i) o=some ev)
 (hnam:∀x∈o.op.operands.toList,∀y,Y7 (U3 ops evs s0 i) x=some y→y.okn (fun b=>decide (b<s0.h.length)||D (b-s0.h.length))=true) (hk:D4a o ev=true) {q:Rq} (hq:ev.rq=some q):q.dep.ok ρ g.f μ w:=by
 have aN:=(List.getElem?_eq_some_iff.1 ho).1;obtain⟨xs,h1,h2,h3⟩:=C1x hab hq hk;have aG:∀x∈q.dep.bs,(U3 ops evs s0 i).blk x.1=some x.2∧hD ops evs s0 D x.1=some x.2:=by
  intro x hx;have aD:=hx;rw[h1]at aD;unfold Hy at aD;obtain⟨n,hn,aB⟩:=List.mem_filterMap.1 aD;cases hb:(U3 ops evs s0 i).blk n with
  | none=>rw[hb]at aB;cases aB
  | some u=>
   rw[hb]at aB;cases aB;refine ⟨hb,?_⟩;rw[A4c hr hwb hI ho he hi hp (by rw[h2];exact List.mem_map_of_mem (f:=(·.1)) hx)];exact hb
 refine E0v (fun x hx=>hI.bl _ _ _ (aG x hx).2) fun n hn=>?_;have aC:=hn;rw[h1]at aC;unfold Hy at aC;simp only[List.mem_filter]at aC;obtain⟨aI,aJ⟩:=aC;have aA:(decide (n<s0.h.length)||D (n-s0.h.length))=true:=by
  refine B0l (N:=fun b=>decide (b<s0.h.length)||D (b-s0.h.length)) (F:=Nt (U3 ops evs s0 i) g.f.sup 3 ((xs.flatMap SV.names).foldl A2i [])) (fun b hb hN m' hm'=>?_) 3 _ (fun m hm=>hm) (fun m hm=>?_) n aI
  ·unfold Ui at hm';rcases List.mem_append.1 hm' with hm' | hm'
   ·cases hbk:(U3 ops evs s0 i).blk b with
    | none=>rw[hbk]at hm';cases hm'
    | some u=>
     obtain⟨T,cs⟩:=u;rw[hbk]at hm';have aE:(b,(T,cs))∈q.dep.bs:=by
      rw[h1];unfold Hy;exact List.mem_filterMap.2 ⟨b,hb,by rw[hbk];rfl⟩
     exact Qw (hI.nB b T cs (aG _ aE).2) m' hm'
   ·split at hm'
    ·rename_i hdb
     have aF:b∈(U3 ops evs s0 i).dy:=by simpa using hdb
     rcases Sw hr.len i (by omega) b aF with h4 | ⟨j,ev',h4,h5,h6,rfl⟩
     ·simp[(hI.fx0 b h4).1.2 m' hm']
     ·rw[Nat.add_sub_cancel_left]at hN;simp only[Bool.or_eq_true,decide_eq_true_eq]at hN;rcases hN with hN | hN
      ·omega
      ·exact (hI.fx1 j ev' h5 h6 hN).1 m' hm'
    ·cases hm'
  ·rw[Rp]at hm;rcases hm with hm | hm
   ·cases hm
   ·obtain⟨y,hy,aK⟩:=List.mem_flatMap.1 hm;obtain⟨x,hx,aL⟩:=h3 y hy;exact SV.names_okn (hnam x hx y aL) m aK
 have aM:n∈(U3 ops evs s0 i).dy:=by simpa using aJ
 have aH:=hI.sk w hI.kp;rcases Sw hr.len i (by omega) n aM with h4 | ⟨j,ev',h4,h5,h6,rfl⟩
 ·exact (hI.fx0 n h4).2.now aH
 ·rw[Nat.add_sub_cancel_left]at aA;simp only[Bool.or_eq_true,decide_eq_true_eq]at aA;rcases aA with aA | aA
  ·omega
  ·exact (hI.fx1 j ev' h5 h6 aA).2.now aH
theorem C4g {Q:Exit→Act→World→Prop} (hr:RegOk g.f.sup ops s0 evs) (hrun:∀(i:Nat) (o:Oper) (ev:SEv),ops[i]?=some o→evs[i]?=some ev→∃m,B3j P g ρ ops (U3 ops evs s0 i).h.length m (U3 ops evs s0 i) o=some ev)
 (hwb:∀(i:Nat) (o:Oper) (ev:SEv),ops[i]?=some o→evs[i]?=some ev→B1l (U3 ops evs s0 i) ev) (hq:∀ev∈evs,∀q,ev.rq=some q→q.Ok P ρ g.f S)
 (hI:RInv P g.f S ops evs s0 ρ μ0 w0 D μ a w) (ho:ops[i]?=some o) (hi:D i=false) (hp:∀e∈o.after,Region.binds .any e=true→D e.on=true) :
 wpOp P ops.toArray Q i (fun a' w'=>∃μ',RInv P g.f S ops evs s0 ρ μ0 w0 (Db D i) μ' a' w') a w:=by
 have aC:=(List.getElem?_eq_some_iff.1 ho).1;have he:evs[i]?=some (evs[i]'(by rw[←hr.len];exact aC)):=List.getElem?_eq_getElem _;generalize hev:evs[i]'(by rw[←hr.len];exact aC)=ev at he;have aB:=(Jh (s0:=s0) hr.len i (by omega)).1;obtain⟨m,hm⟩:=hrun i o ev ho he;unfold B3j at hm;unfold wpOp;simp only[List.getElem?_toArray,ho];cases hwt:B8h ρ ops (U3 ops evs s0 i) o with
 | none=>rw[hwt]at hm;cases hm
 | some bw=>
  rw[C2o hr hI ho he hi hp hwt];rw[hwt]at hm;cases bw with
  | false=>
   simp only[Bool.false_eq_true,if_false]at hm ⊢;injection hm with hm;have h1:ev.val=.v false [.c undef]:=by rw[←hm]
   have h2:=B0t hr hwb hI ho he hi hp (μ':=μ) (w':=w) (by unfold Fs;rw[←hm];exact ⟨Below.refl _ _,.inl ⟨rfl,rfl⟩⟩);rw[h1]at h2;exact ⟨μ,h2⟩
  | true=>
   simp only[if_true]at hm ⊢;refine .inl ?_;cases hab:Zg P g ρ (U3 ops evs s0 i).h.length m (U3 ops evs s0 i) o with
   | none=>rw[hab]at hm;cases hm
   | some ev'=>
    rw[hab]at hm;simp only at hm;split at hm
    ·rename_i hck
     simp only[Bool.and_eq_true]at hck;injection hm with hm;subst hm;have aA:∀x∈o.op.operands.toList,∀y,Y7 (U3 ops evs s0 i) x=some y→y.okn (fun b=>decide (b<s0.h.length)||D (b-s0.h.length))=true:=fun x hx y hy=>by
      cases x with
      | tmp t=>
       have ht:t∈A5z ops o:=by unfold A5z Oper.looksAt;exact List.mem_append_left _ (List.mem_filterMap.2 ⟨.tmp t,hx,rfl⟩)
       exact hI.nT t y ((C5w hr hI ho he hi hp ht).trans (Tp hy).1)
      | const v=>exact B5z hy _
      | global _=>cases hy
      | func _=>cases hy
     refine B1j hab (fun x hx s hs=>?_) (fun x hx s hs=>?_) (fun b hb T cs hbk=>?_) (fun q hqe=>hq ev' (List.mem_of_getElem? he) q hqe) (hI.sk w hI.kp) (fun q hqe=>E2t hr hwb hI ho he hi hp hab aA hck.2 hqe) fun μ' w' hE=>⟨μ',B0t hr hwb hI ho he hi hp hE⟩
     ·cases x with
      | tmp t=>
       have ht:t∈A5z ops o:=by unfold A5z Oper.looksAt;exact List.mem_append_left _ (List.mem_filterMap.2 ⟨.tmp t,hx,rfl⟩)
       exact hI.tm t s ((C5w hr hI ho he hi hp ht).trans (Tp hs).1) (Tp hs).2
      | const v=>exact (Li hs).symm
      | global _=>cases hs
      | func _=>cases hs
     ·refine SV.okn_mono (fun b hb=>?_) (aA x hx s hs);rw[aB];simp only[bne_iff_ne,ne_eq];intro e;subst e;rw[Nat.add_sub_cancel_left,hi]at hb;simp only[Bool.or_false,decide_eq_true_eq]at hb;omega
     ·exact hI.bl b T cs ((A4c hr hwb hI ho he hi hp hb).trans hbk)
    ·cases hm
theorem D5h {m:Nat} {s:St} {o:Oper} {ev:SEv} (h:B3j P g ρ ops s.h.length m s o=some ev):B1l s ev:=by
 unfold B3j at h;split at h
 ·split at h
  ·split at h
   ·rename_i hc
    cases h;intro x hx;simp only[Bool.and_eq_true]at hc;replace hc:=hc.1;unfold F2t at hc;rw[hx]at hc;simp only[Bool.or_eq_true,beq_iff_eq]at hc;rcases hc with hc | hc
    ·exact .inl hc
    ·exact .inr ⟨Vj hc,hc⟩
   ·cases h
  ·cases h
 ·cases h;intro x hx;cases hx
 ·cases h
def Ij (listed:Array Bool):Nat→Bool:=fun i=>listed.getD i false
theorem C1b {listed:Array Bool} {i:Nat} (h:i<listed.size):Ij (listed.setIfInBounds i true)=Db (Ij listed) i:=by
 funext j;unfold Ij Db;by_cases hj:j=i
 ·subst hj;simp[h]
 ·rw[getD_set_ne false (fun e=>hj e.symm)];simp[hj]
theorem A5c:∀(L L':List Nat),L.Nodup→(∀i∈L,i∈L')→L.length≤L'.length
 | [],_,_,_=>Nat.zero_le _
 | x::L,L',h,hs=>by
  simp only[List.nodup_cons]at h;have h1:=A5c L (L'.erase x) h.2 fun i hi=>(List.mem_erase_of_ne (fun e=>h.1 (by rw[←e];exact hi))).2 (hs i (by simp[hi]));have h2:=hs x (by simp);rw[List.length_erase_of_mem h2]at h1;have h3:0<L'.length:=List.length_pos_of_mem h2;simp only[List.length_cons];omega
theorem D6n {n:Nat} {L:List Nat} (h:L.Nodup) (hl:∀i∈L,i<n) (hn:L.length=n):∀i,i<n→i∈L:=by
 intro i hi;apply Classical.byContradiction;intro aA;have:=A5c (i::L) (List.range n) (by simp[aA,h]) (fun j hj=>by
  rcases List.mem_cons.1 hj with rfl | hj
  ·exact List.mem_range.2 hi
  ·exact List.mem_range.2 (hl j hj))
 simp at this;omega
theorem C6z {Q:Exit→Act→World→Prop} (hr:RegOk g.f.sup ops s0 evs) (hrun:∀(i:Nat) (o:Oper) (ev:SEv),ops[i]?=some o→evs[i]?=some ev→∃m,B3j P g ρ ops (U3 ops evs s0 i).h.length m (U3 ops evs s0 i) o=some ev)
 (hwb:∀(i:Nat) (o:Oper) (ev:SEv),ops[i]?=some o→evs[i]?=some ev→B1l (U3 ops evs s0 i) ev) (hq:∀ev∈evs,∀q,ev.rq=some q→q.Ok P ρ g.f S)
 (hQ:∀D μ a w,(∀i,D i=true↔i<ops.length)→RInv P g.f S ops evs s0 ρ μ0 w0 D μ a w→Q .normal a w) :
 ∀(fuel:Nat) (listed:Array Bool) (L:List Nat) (μ:Nat→Nm) (a:Act) (w:World),listed.size=ops.length→L.Nodup→L.length+fuel=ops.length→(∀i,i∈L↔Ij listed i=true)→
  RInv P g.f S ops evs s0 ρ μ0 w0 (Ij listed) μ a w→wpAny P .any ops.toArray Q fuel listed a w:=by
 have aC:∀(listed:Array Bool) (i:Nat),Ij listed i=true→i<listed.size:=by
  intro listed i h;unfold Ij at h;rcases Nat.lt_or_ge i listed.size with h1 | h1
  ·exact h1
  ·simp[Array.getElem?_eq_none h1]at h
 have aD:∀(listed:Array Bool) (μ:Nat→Nm) (a:Act) (w:World),listed.size=ops.length→Region.ready .any ops.toArray listed=[]→RInv P g.f S ops evs s0 ρ μ0 w0 (Ij listed) μ a w→Q .normal a w:=
  fun listed μ a w hs h hI=>hQ _ μ a w (fun i=>⟨fun h'=>by rw[←hs];exact aC _ _ h',Gx hr.inn hs h i⟩) hI
 intro fuel;induction fuel with
 | zero=>
  intro listed L μ a w hs hn hl hL hI;have aA:∀i,i<ops.length→Ij listed i=true:=fun i hi=>(hL i).1 (D6n hn (fun j hj=>by rw[←hs];exact aC _ _ ((hL j).1 hj)) (by omega) i hi);refine ⟨?_,hQ _ μ a w (fun i=>⟨fun h'=>by rw[←hs];exact aC _ _ h',aA i⟩) hI⟩;cases hrd:Region.ready .any ops.toArray listed with
  | nil=>rfl
  | cons x xs=>
   obtain⟨h1,o,h2,_⟩:=mem_ready.1 (show x∈Region.ready .any ops.toArray listed by rw[hrd];simp);have h3:x<ops.length:=by simpa using (Array.getElem?_eq_some_iff.1 h2).1
   have h4:=aA x h3;unfold Ij at h4;have h5:x<listed.size:=by omega
   simp[h5]at h1 h4;rw[h1]at h4;cases h4
 | succ fuel ih=>
  intro listed L μ a w hs hn hl hL hI;refine ⟨fun h=>aD listed μ a w hs h hI,fun i hi=>?_⟩;obtain⟨h1,o,h2,h3⟩:=mem_ready.1 hi;have ho:ops[i]?=some o:=by simpa using h2
  have aF:=(List.getElem?_eq_some_iff.1 ho).1;have aE:Ij listed i=false:=by
   unfold Ij;have h5:i<listed.size:=by omega
   simp[h5]at h1 ⊢;exact h1
  refine wpOp_mono (fun a' w' hh=>?_) (C4g hr hrun hwb hq hI ho aE h3);obtain⟨μ',h⟩:=hh;have aB:=C1b (listed:=listed) (i:=i) (by omega);refine ih (listed.setIfInBounds i true) (i::L) μ' a' w' (by simpa using hs) ?_ (by simp;omega) ?_ (by rw[aB];exact h)
  ·simp only[List.nodup_cons];exact ⟨fun h=>(by rw[(hL i).1 h]at aE;cases aE),hn⟩
  ·intro j;rw[aB];simp[Db,hL j]
end
section
structure Goes (s : St) (μ : Nat → Nm) (w : World) (s' : St) (μ' : Nat → Nm) (w' : World) : Prop where
 kp:Kpt s μ w w'
 len:s.h.length≤s'.h.length
 old:∀b,b<s.h.length→μ' b=μ b
 new:∀b,(s'.blk b).isSome=true→s.h.length≤b→w.heap.size≤(μ' b).b
 ini:∀b,(s'.blk b).isSome=true→b<s.h.length→(s.blk b).isSome=true
theorem Goes.refl (s:St) (μ:Nat→Nm) (w:World):Goes s μ w s μ w:=
 ⟨⟨rfl,rfl,rfl,Nat.le_refl _,fun _ _ _=>rfl⟩,Nat.le_refl _,fun _ _=>rfl,fun b h1 h2=>absurd (Vj h1) (by omega),fun b h _=>h⟩
theorem Goes.kpt {s s1:St} {μ μ1:Nat→Nm} {w w1 w2:World} (h:Goes s μ w s1 μ1 w1) (h':Kpt s1 μ1 w1 w2):Kpt s μ w w2:=by
 refine ⟨h'.os.trans h.kp.os,h'.tape.trans h.kp.tape,h'.output.trans h.kp.output,Nat.le_trans h.kp.size h'.size,fun k hk hn=>?_⟩;refine (h'.block k (Nat.lt_of_lt_of_le hk h.kp.size) fun b hb e=>?_).trans (h.kp.block k hk hn);rcases Nat.lt_or_ge b s.h.length with h1 | h1
 ·exact hn b (h.ini b hb h1) (by rw[←h.old b h1];exact e)
 ·have:=h.new b hb h1;omega
theorem Goes.trans {s s1 s2:St} {μ μ1 μ2:Nat→Nm} {w w1 w2:World} (h:Goes s μ w s1 μ1 w1) (h':Goes s1 μ1 w1 s2 μ2 w2):Goes s μ w s2 μ2 w2:=by
 refine ⟨h.kpt h'.kp,Nat.le_trans h.len h'.len,fun b hb=>(h'.old b (Nat.lt_of_lt_of_le hb h.len)).trans (h.old b hb),fun b hb hge=>?_,fun b hb hlt=>?_⟩
 ·rcases Nat.lt_or_ge b s1.h.length with h1 | h1
  ·rw[h'.old b h1];exact h.new b (h'.ini b hb h1) hge
  ·exact Nat.le_trans h.kp.size (h'.new b hb h1)
 ·exact h.ini b (h'.ini b hb (Nat.lt_of_lt_of_le hlt h.len)) hlt
section
variable {P : Program} {g : Cfg} {S : World → Prop} {ρ : List Av}
theorem Qo {α:Type} {wr:Nat→Option α}:∀ {n:Nat} {x:α},Cg wr (fun _=>false) n x=x
 | 0,_=>rfl
 | n+1,x=>by unfold Cg;rw[if_neg (by simp)];exact Qo
theorem Ze {ops:List Oper} {Q:Exit→Act→World→Prop} (hin:inOrder ops=true):∀(fuel k:Nat) (listed:Array Bool) (a:Act) (w:World),k+fuel=ops.length→listed.size=ops.length→(∀j,listed.getD j false=true↔j<k)→
 wpAny P .any ops.toArray Q fuel listed a w→wpOps P ops.toArray Q (List.range' k fuel) a w
 | 0,k,listed,a,w,hk,hs,hl,h=>h.2
 | fuel+1,k,listed,a,w,hk,hs,hl,h=>by
  rw[List.range'_succ,wpOps_cons];have hkl:k<ops.length:=by omega
  have aA:k∈Region.ready .any ops.toArray listed:=by
   refine mem_ready.2 ⟨?_,ops[k],by simp[hkl],fun e he hb=>(hl e.on).2 (Ac hin (List.getElem?_eq_getElem hkl) e he hb)⟩;have h1:listed.getD k false=false:=by
    cases h2:listed.getD k false with
    | false=>rfl
    | true=>have:=(hl k).1 h2;omega
   have h3:k<listed.size:=by omega
   simp[h3]at h1 ⊢;exact h1
  refine wpOp_mono (fun a' w' h'=>?_) (h.2 k aA);refine Ze hin fuel (k+1) _ a' w' (by omega) (by simpa using hs) (fun j=>?_) h';by_cases hj:j=k
  ·subst hj;have h3:j<listed.size:=by omega
   simp[h3]
  ·rw[getD_set_ne false (fun e=>hj e.symm),hl j];omega
theorem C3f {ops:List Oper} {evs:List SEv} {s s':St} {na na' id:Nat} {draw:Bool} {μ:Nat→Nm} {a:Act} {w:World} {Q:Exit→Act→World→Prop} (hm:P.follows .mixedOrders=true) (hrun:C9q P g ρ ops ops s na=some (evs,s',na')) (hreg:D3o g.f.sup ops s evs=true)
 (hq:∀ev∈evs,∀q,ev.rq=some q→q.Ok P ρ g.f S) (hR:Rel ρ g.f S s μ a w) (hQ:∀μ' a' w',Rel ρ g.f S s' μ' a' w'→Goes s μ w s' μ' w'→Q .normal a' w'):(Code.region id ops.toArray draw).wp P Q a w:=by
 have hr:=D3y hreg;obtain⟨_,aG,aM⟩:=B8i (ops:=ops) (evs:=evs) (s0:=s) (k:=0) (fun j=>by simp) (fun j=>by simp) hrun rfl;have aC:∀(i:Nat) (o:Oper) (ev:SEv),ops[i]?=some o→evs[i]?=some ev→∃m,B3j P g ρ ops (U3 ops evs s i).h.length m (U3 ops evs s i) o=some ev:=by intro i o ev ho he;have h1:=aM i o ev (by simpa using ho) (by simpa using he) (List.getElem?_eq_some_iff.1 ho).1;simpa using h1
 have aI:∀(i:Nat) (o:Oper) (ev:SEv),ops[i]?=some o→evs[i]?=some ev→B1l (U3 ops evs s i) ev:=by intro i o ev ho he;obtain⟨m,hm⟩:=aC i o ev ho he;exact D5h hm
 have aE:U3 ops evs s ops.length=s':=by simpa using aG
 have aJ:∀t,sD ops evs s (fun _=>false) t=s.σ[t]?:=fun t=>Qo;have aD:∀b,hD ops evs s (fun _=>false) b=s.blk b:=fun b=>Qo;have any:∀w1:World,Rel ρ g.f S s μ a w1→Kpt s μ w w1→w1.heap.size=w.heap.size→wpAny P .any ops.toArray Q ops.length (Array.replicate ops.length false) a w1:=by
  intro w1 aB aN aO;have aK:Ij (Array.replicate ops.length false)=fun _=>false:=by
   funext j;unfold Ij;rcases Nat.lt_or_ge j ops.length with h | h
   ·simp[h]
   ·simp[Array.getElem?_eq_none (xs:=Array.replicate ops.length false) (i:=j) (by simpa using h)]
  refine C6z (μ0:=μ) (w0:=w) hr aC aI hq (fun D μ' a' w' hDD hI=>?_) ops.length _ [] μ a w1 (by simp) (by simp) (by simp) (fun i=>by rw[aK];simp) ?_
  ·have hT:∀t,sD ops evs s D t=s'.σ[t]?:=by intro t;rw[←aE,A8i hr.len hr.dstlt ops.length (Nat.le_refl _)];exact Dh fun j hj hne=>absurd ((hDD j).2 hj) hne
   have hB:∀b,hD ops evs s D b=s'.blk b:=by intro b;rw[←aE,Yt hr.len aI ops.length (Nat.le_refl _)];exact Dh fun j hj hne=>absurd ((hDD j).2 hj) hne
   have aA:=Jh (s0:=s) hr.len ops.length (Nat.le_refl _);rw[aE]at aA;have aH:∀b,(decide (b<s.h.length)||D (b-s.h.length))=true→decide (b<s'.h.length)=true:=by
    intro b hb;simp only[Bool.or_eq_true,decide_eq_true_eq]at hb ⊢;rw[aA.1];rcases hb with hb | hb
    ·omega
    ·have:=(hDD _).1 hb;omega
   have hG:Goes s μ w s' μ' w':=⟨hI.kp,by rw[aA.1];omega,hI.old,fun b hb=>hI.new b (by rw[hB];exact hb),fun b hb=>hI.ini b (by rw[hB];exact hb)⟩;have aF:(fun b=>(hD ops evs s D b).isSome)=fun b=>(s'.blk b).isSome:=funext fun b=>by rw[hB]
   have aL:∀n∈s'.dy,(n<s'.h.length∧∀m∈g.f.sup n,m<s'.h.length)∧FHeld g.f S (fun b=>(s'.blk b).isSome) μ' n w':=by
    intro n hn;rw[←aE]at hn;rcases Sw hr.len ops.length (Nat.le_refl _) n hn with h1 | ⟨j,ev,h1,h2,h3,rfl⟩
    ·obtain⟨h4,h5⟩:=hI.fx0 n h1;rw[aF]at h5;exact ⟨⟨by rw[aA.1];omega,fun m hm=>by rw[aA.1];have:=h4.2 m hm;omega⟩,h5⟩
    ·obtain⟨h6,h5⟩:=hI.fx1 j ev h2 h3 ((hDD j).2 h1);rw[aF]at h5;exact ⟨⟨by rw[aA.1];omega,fun m hm=>by simpa using aH m (h6 m hm)⟩,h5⟩
   refine hQ μ' a' w' ⟨by rw[hI.size,aA.2],hI.df,fun t x hx=>hI.tm t x ((hT t).trans hx),fun b T cs hb=>hI.bl b T cs ((hB b).trans hb),fun b b' hb hb'=>hI.inj b b' (by rw[hB];exact hb) (by rw[hB];exact hb'),
    fun t x hx=>SV.okn_mono aH (hI.nT t x ((hT t).trans hx)),fun b T cs hb=>Oh aH (hI.nB b T cs ((hB b).trans hb)),fun n hn=>(aL n hn).2,fun n hn=>(aL n hn).1,fun W hW=>hI.sk W (hG.kpt hW)⟩ hG
  ·rw[aK];have aF:(fun b=>(hD ops evs s (fun _=>false) b).isSome)=fun b=>(s.blk b).isSome:=funext fun b=>by rw[aD]
   refine ⟨fun i o _ h=>(by cases h),aB.size,aB.df,fun t x hx=>aB.tm t x ((aJ t).symm.trans hx),fun b T cs hb=>aB.bl b T cs ((aD b).symm.trans hb),fun b b' hb hb'=>aB.inj b b' (by rw[←aD];exact hb) (by rw[←aD];exact hb'),
    fun t x hx=>SV.okn_mono (fun b hb=>by simpa using hb) (aB.nT t x ((aJ t).symm.trans hx)),fun b T cs hb=>Oh (fun b hb=>by simpa using hb) (aB.nB b T cs ((aD b).symm.trans hb)),aN,fun _ _=>rfl,fun b hb hge=>?_,fun b hb _=>by rw[←aD];exact hb,fun b hb=>?_,fun n hn=>⟨aB.dl n hn,by rw[aF];exact aB.fx n hn⟩,fun i ev _ _ h=>(by cases h),hR.sk⟩
   ·have:=Vj (s:=s) (b:=b) (by rw[←aD];exact hb);omega
   ·exact .inl (Vj (s:=s) (b:=b) (by rw[←aD];exact hb))
 cases draw with
 | true=>
  refine wp_region_any hm ?_;have h1:=any w.drew ⟨hR.size,hR.df,hR.tm,fun b T cs hb=>(hR.bl b T cs hb).drew,hR.inj,hR.nT,hR.nB,hR.fx,hR.dl,fun W hW=>hR.sk W ⟨hW.os,hW.tape,hW.output,hW.size,hW.block⟩⟩ ⟨rfl,rfl,rfl,Nat.le_refl _,fun _ _ _=>rfl⟩ rfl;have h2:ops.toArray.size=ops.length:=by simp
  rw[h2];exact h1
 | false=>
  refine wp_region ?_;have h1:=any w hR ⟨rfl,rfl,rfl,Nat.le_refl _,fun _ _ _=>rfl⟩ rfl;have h2:=Ze hr.inn ops.length 0 _ a w (by omega) (by simp) (fun j=>by
   rcases Nat.lt_or_ge j ops.length with h | h
   ·simp[h]
   ·simp[Array.getElem?_eq_none (xs:=Array.replicate ops.length false) (i:=j) (by simpa using h)]) h1
  rw[List.range_eq_range'];simpa using h2
end
end
section
inductive XK where
 | nrm
 | ext (id:Nat)
 | ret
def XK.ex:XK→Exit
 | .nrm=>.normal
 | .ext id=>.exit id
 | .ret=>.ret
abbrev Out := XK × St × Nat × List Rq
def Yn (body:St→Nat→Option Out):Nat→St→Nat→Option Out
 | 0,_,_=>none
 | m+1,s,na=>match body s na with
  | some (.nrm,s1,n1,q1)=>match Yn body m s1 n1 with
   | some (k,s2,n2,q2)=>some (k,s2,n2,q1++q2)
   | none=>none
  | r=>r
def A2z (P:Program) (g:Cfg) (ρ:List Av):Nat→Code→St→Nat→Option Out
 | 0,_,_,_=>none
 | n+1,c,s,na=>match c with
  | .skip | .label _=>some (.nrm,s,na,[])
  | .ret=>some (.ret,s,na,[])
  | .exit id=>some (.ext id,s,na,[])
  | .region _ ops _=>match C9q P g ρ ops.toList ops.toList s na with
   | some (evs,s',na')=>if D3o g.f.sup ops.toList s evs=true then some (.nrm,s',na',evs.filterMap (·.rq)) else none
   | none=>none
  | .seq x y=>match A2z P g ρ n x s na with
   | some (.nrm,s1,n1,q1)=>match A2z P g ρ n y s1 n1 with
    | some (k,s2,n2,q2)=>some (k,s2,n2,q1++q2)
    | none=>none
   | r=>r
  | .cond c x y=>match (Y7 s c).bind (Ry ρ) with
   | some b=>A2z P g ρ n (if b then x else y) s na
   | none=>none
  | .block id b=>match A2z P g ρ n b s na with
   | some (.ext i,s1,n1,q)=>some (if i=id then .nrm else .ext i,s1,n1,q)
   | r=>r
  | .loop b=>Yn (A2z P g ρ n b) n s na
  | _=>none
section
variable {P : Program} {g : Cfg} {S : World → Prop} {ρ : List Av}
def D7g (P:Program) (ρ:List Av) (Φ:Fcts) (S:World→Prop) (c:Code) (s:St) (o:Out):Prop:=
 (∀q∈o.2.2.2,q.Ok P ρ Φ S)→∀(μ:Nat→Nm) (a:Act) (w:World) (Q:Exit→Act→World→Prop),Rel ρ Φ S s μ a w→
  (∀μ' a' w',Rel ρ Φ S o.2.1 μ' a' w'→Goes s μ w o.2.1 μ' w'→Q o.1.ex a' w')→c.wp P Q a w
theorem D4y {s:St} {c:Operand} {x:SV} {μ:Nat→Nm} {a:Act} {w:World} (hR:Rel ρ g.f S s μ a w) (h:Y7 s c=some x):a.eval c=x.val ρ μ:=by
 cases c with
 | tmp t=>exact hR.tm t x (Tp h).1 (Tp h).2
 | const v=>exact (Li h).symm
 | global _=>cases h
 | func _=>cases h
theorem Zl {c:Code} {body:St→Nat→Option Out} (hb:∀s na o,body s na=some o→D7g P ρ g.f S c s o):∀(m:Nat) (s:St) (na:Nat) (o:Out),Yn body m s na=some o→
 (∀q∈o.2.2.2,q.Ok P ρ g.f S)→∀(μ:Nat→Nm) (a:Act) (w:World) (Q:Exit→Act→World→Prop),Rel ρ g.f S s μ a w→
 (∀μ' a' w',Rel ρ g.f S o.2.1 μ' a' w'→Goes s μ w o.2.1 μ' w'→Q o.1.ex a' w')→Code.rounds P c Q m a w
 | 0,s,na,o,h=>by cases h
 | m+1,s,na,o,h=>by
  intro hq μ a w Q hR hQ;rw[rounds_succ];unfold Yn at h;split at h
  ·rename_i s1 n1 q1 h1
   split at h
   ·rename_i k s2 n2 q2 h2
    cases h;refine hb s na _ h1 (fun q hm=>hq q (by simp[hm])) μ a w _ hR fun μ' a' w' hR' hG=>?_;show Code.rounds P c Q m a' w';exact Zl hb m s1 n1 _ h2 (fun q hm=>hq q (by simp[hm])) μ' a' w' Q hR' fun μ2 a2 w2 hR2 hG2=>hQ μ2 a2 w2 hR2 (hG.trans hG2)
   ·cases h
  ·rename_i hne
   obtain⟨k,s1,n1,q1⟩:=o;refine hb s na _ h hq μ a w _ hR fun μ' a' w' hR' hG=>?_;cases k with
   | nrm=>exact absurd h (hne s1 n1 q1)
   | ext id=>exact hQ μ' a' w' hR' hG
   | ret=>exact hQ μ' a' w' hR' hG
theorem Aa (hm:P.follows .mixedOrders=true):∀(n:Nat) (c:Code) (s:St) (na:Nat) (o:Out),A2z P g ρ n c s na=some o→D7g P ρ g.f S c s o
 | 0,c,s,na,o,h=>by cases h
 | n+1,c,s,na,o,h=>by
  intro hq μ a w Q hR hQ;cases c<;>simp only[A2z]at h;case skip=>cases h;exact wp_skip (hQ μ a w hR (Goes.refl _ _ _))
  case label l=>cases h;exact wp_label (hQ μ a w hR (Goes.refl _ _ _))
  case ret=>cases h;exact wp_ret (hQ μ a w hR (Goes.refl _ _ _))
  case exit id=>cases h;exact wp_exit (hQ μ a w hR (Goes.refl _ _ _))
  case region id ops draw=>
   split at h
   ·rename_i evs s' na' hrun
    split at h
    ·rename_i hreg
     cases h;have h1:=C3f (id:=id) (draw:=draw) (Q:=Q) hm hrun hreg (fun ev hev q hqe=>hq q (List.mem_filterMap.2 ⟨ev,hev,hqe⟩)) hR fun μ' a' w' hR' hG=>hQ μ' a' w' hR' hG;simpa using h1
    ·cases h
   ·cases h
  case seq x y=>
   split at h
   ·rename_i s1 n1 q1 h1
    split at h
    ·rename_i k s2 n2 q2 h2
     cases h;refine wp_seq ?_;refine Aa hm n x s na _ h1 (fun q hmq=>hq q (by simp[hmq])) μ a w _ hR fun μ' a' w' hR' hG=>?_;show y.wp P Q a' w';exact Aa hm n y s1 n1 _ h2 (fun q hmq=>hq q (by simp[hmq])) μ' a' w' Q hR' fun μ2 a2 w2 hR2 hG2=>hQ μ2 a2 w2 hR2 (hG.trans hG2)
    ·cases h
   ·rename_i hne
    obtain⟨k,s1,n1,q1⟩:=o;refine wp_seq ?_;refine Aa hm n x s na _ h hq μ a w _ hR fun μ' a' w' hR' hG=>?_;cases k with
    | nrm=>exact absurd h (hne s1 n1 q1)
    | ext id=>exact hQ μ' a' w' hR' hG
    | ret=>exact hQ μ' a' w' hR' hG
  case cond c x y=>
   split at h
   ·rename_i b hb
    cases hc:Y7 s c with
    | none=>rw[hc]at hb;cases hb
    | some sc=>
     rw[hc]at hb;exact wp_cond ((D4y hR hc).trans (Lo hb)) (Aa hm n _ s na o h hq μ a w Q hR hQ)
   ·cases h
  case block id b=>
   refine wp_block ?_;split at h
   ·rename_i i s1 n1 q1 h1
    cases h;refine Aa hm n b s na _ h1 hq μ a w _ hR fun μ' a' w' hR' hG=>?_;have h2:=hQ μ' a' w' hR' hG;show Exit.inBlock id Q (.exit i) a' w';unfold Exit.inBlock;simp only;split
    ·rename_i h3;rw[if_pos h3]at h2;exact h2
    ·rename_i h3;rw[if_neg h3]at h2;exact h2
   ·rename_i hne
    obtain⟨k,s1,n1,q1⟩:=o;refine Aa hm n b s na _ h hq μ a w _ hR fun μ' a' w' hR' hG=>?_;cases k with
    | nrm=>exact hQ μ' a' w' hR' hG
    | ext i=>exact absurd h (hne i s1 n1 q1)
    | ret=>exact hQ μ' a' w' hR' hG
  case loop b=>exact wp_loop_rounds n (Zl (fun s na o h=>Aa hm n b s na o h) n s na o h hq μ a w Q hR hQ)
  all_goals (cases h)
end
end
end Go.Proofs.YtdfpoofbgjilgaaGreat
