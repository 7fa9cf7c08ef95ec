/- A part of the proof of DirBuilds. -/
import Derived.Maps.RangeWalk
import Derived.Test.YtlegpkdighoflaaGreatSbn
set_option linter.unusedVariables false
set_option linter.unusedSimpArgs false
set_option maxRecDepth 100000
set_option maxHeartbeats 40000000
namespace Go.Proofs.YtlegpkdighoflaaGreat
open Go Go.RowKit Sh
section
theorem B2a {α β:Type} {f:α→Option β}:∀ {l:List α} {ys:List β},l.mapM f=some ys→∀x∈l,∃y,f x=some y
 | [],_,_,x,h=>by cases h
 | a::l,ys,hm,x,h=>by
  rw[List.mapM_cons]at hm;cases ha:f a with
  | none=>simp[ha]at hm
  | some y=>
   rcases List.mem_cons.1 h with rfl | h
   ·exact ⟨y,ha⟩
   ·cases hl:l.mapM f with
    | none=>simp[ha,hl]at hm
    | some r=>exact B2a hl x h
theorem D8f {P:Program} {k e:TypeId} (A:WideMaps.ArrKey P k e 32) (he:P.underlying e=some (.int .u8)) (hsz:∃m,P.types.size=m+1) {key:Value} {kl:Lit} (h:keyOf P k key=some kl):∃x:{ l:List UInt8 // l.length=32 },key=A8 x.1:=by
 unfold keyOf at h;simp only[A.hu]at h;split at h
 ·obtain⟨m,hm⟩:=hsz;cases hk:P.keyLits (P.types.size+1) k key.cells.toList with
  | none=>rw[hk]at h;cases h
  | some ls=>
   rw[hm]at hk;unfold Program.keyLits at hk;simp only[A.hu]at hk;split at hk
   ·rename_i hlen
    rw[A.size]at hlen;cases hmm:(List.range 32).mapM (fun i=>P.keyLits (m+1) e ((key.cells.toList.drop (i*P.cellsOf e)).take (P.cellsOf e))) with
    | none=>rw[hmm]at hk;cases hk
    | some ys=>
     have aB:∃a,key=.agg a:=by cases key<;>first | exact ⟨_,rfl⟩ | (simp[Value.cells]at hlen)
     obtain⟨a,rfl⟩:=aB;have aC:a.toList.length=32:=by simpa [Value.cells] using hlen
     have aA:∀c∈a.toList,∃y,Ji c=some y:=by
      intro c hc;obtain⟨i,hi,rfl⟩:=List.getElem_of_mem hc;obtain⟨y,hy⟩:=B2a hmm i (by simp;omega);have e1:(((Value.agg a).cells.toList.drop (i*P.cellsOf e)).take (P.cellsOf e))=[a.toList[i]]:=by
       rw[A.one,Nat.mul_one];show (a.toList.drop i).take 1=_;rw[List.drop_eq_getElem_cons hi];rfl
      rw[e1]at hy;unfold Program.keyLits at hy;simp only[he]at hy;generalize a.toList[i]=c at hy ⊢;cases c<;>first | (simp at hy;done) | skip
      rename_i q n
      simp only[]at hy;split at hy
      ·rename_i hq
       obtain⟨rfl,hw⟩:=hq;simp[Lit.wf,IntKind.min,IntKind.max,IntKind.bits,IntKind.signed]at hw;exact ⟨UInt8.ofNat n.toNat,by simp only[Ji];rw[if_pos (by omega)]⟩
      ·cases hy
     obtain⟨l,hl⟩:=Vs a.toList aA;have hd:B4x (.agg a)=some l:=hl;have h1:=B6k hd;refine ⟨⟨l,?_⟩,h1⟩;have h2:=congrArg (fun v=>match v with | .agg a=>a.toList.length | _=>0) h1;simp only[A8]at h2;simp[c8]at h2;simp at aC;omega
   ·cases hk
 ·cases h
theorem C9g {key:Value} {kl:Lit} (h:keyOf Tryz.prog 23 key=some kl):∃x:{ l:List UInt8 // l.length=32 },key=A8 x.1:=D8f A7x Tryz.underlying5 A2f h
def MapR (w:World) (b r n:Nat) (m:List UInt8→Option Value) (left:Lit→Bool) (cnt:Nat):Prop:=∃D:DataW Value,w.ranges Tryz.prog 23 RV b r n D left cnt∧
 ∀k:List UInt8,k.length=32→Maps.has D (Iu k)=(m k).isSome∧∀z,D.atKey (Iu k) z=(match m k with | some v=>.held v | none=>z)
section
variable {w w' : World} {b r n cnt : Nat} {m : List UInt8 → Option Value} {left : Lit → Bool}
theorem MapR.few (h:MapR w b r n m left cnt):cnt≤n:=by
 obtain⟨D,⟨es,aA,aB,aC,c0,_,_,h3,_,_,_,h7,_⟩,_⟩:=h;rw[←h7];exact Nat.le_trans (by simpa [leftOf] using Array.size_filter_le) h3
theorem MapR.kept {row:Option Nat} (h:MapR w b r n m left cnt) (hg:w.grownBy w' row) (hb:some b≠row) (hr:some r≠row):MapR w' b r n m left cnt:=by
 obtain⟨D,h1,h2⟩:=h;exact ⟨D,h1.kept hg hb hr,h2⟩
theorem MapR.below (h:MapR w b r n m left cnt) (hb:Below w.heap.size w w'):MapR w' b r n m left cnt:=
 h.kept (row:=none) ⟨hb.os,hb.tape,hb.output,hb.size,fun k hk _=>hb.block k (by omega)⟩ (by simp) (by simp)
theorem MapR.left_eq (h:MapR w b r n m left cnt):w.rangeLeft b r=cnt:=by
 obtain⟨D,h1,h2⟩:=h;exact h1.left_eq
noncomputable def Ew (left:Lit→Bool) (x:List UInt8):Bool:=!left (Iu x)
variable {P : Program} {ops : Array Oper} {rest : List Oper} {o : Oper} {a : Act} {Q : Exit → Act → World → Prop}
theorem B6f (w:World) (hg:o.guard=none) (x:Operand) (hop:o.op=Op.range 32 x) (hm:a.eval x=.map (some b)) (h:MapV w b n m)
 (hK:∀w' left cnt,MapR w' b w.heap.size n m left cnt→(∀k:List UInt8,k.length=32→left (Iu k)=(m k).isSome)→w.grownBy w' none→w'.heap.size=w.heap.size+1→wpList Tryz.prog ops Q rest (a.put o.dst (.pointer (some ⟨w.heap.size,0,none⟩))) w') :
 wpList Tryz.prog ops Q (o::rest) a w:=by
 obtain⟨D,hD,hl⟩:=h;exact wpList_range_own w hg x 32 hop 23 42 Ck Tryz.underlying32 RV b n D hm hD
  fun w' h1 h2 h3=>hK w' _ _ ⟨D,h1,hl⟩ (fun k hk=>(hl k hk).1) h2 h3
theorem C2a (w:World) (hg:o.guard=none) (it:Operand) (hop:o.op=Op.next it false) (hit:a.eval it=.pointer (some ⟨r,0,none⟩)) (h:MapR w b r n m left cnt)
 (hDone:cnt=0→(∀k,Ew left k=true)→wpList Tryz.prog ops Q rest (a.put o.dst (.tuple #[.bool false])) w)
 (hMore:∀(x:List UInt8) (v:Value) (left':Lit→Bool) (w':World) (cnt':Nat),x.length=32→m x=some v→Ew left x=false→Ew left' x=true→(∀y:List UInt8,y.length=32→y≠x→Ew left' y=Ew left y)→MapR w' b r n m left' cnt'→cnt'<cnt→
  w.grownBy w' (some r)→w'.heap.size=w.heap.size→(Instr.entry (.pointer (some ⟨r,0,none⟩))).run Tryz.prog w'=.ok (.tuple #[A8 x,v]) w'→wpList Tryz.prog ops Q rest (a.put o.dst (.tuple #[.bool true,A8 x,v])) w') :
 wpList Tryz.prog ops Q (o::rest) a w:=by
 obtain⟨D,hD,hl⟩:=h;refine wpList_next_ranges (H:=Value) w hg it hop 23 Ck RV (fun x:{ l:List UInt8 // l.length=32 }=>A8 x.1) (fun v:Value=>v) (fun key kl hk=>C9g hk) (fun v y _=>⟨v,rfl⟩) b r n D left cnt hit hD
  (fun h0 h1=>hDone h0 fun k=>by unfold Ew;rw[h1];rfl) ?_
 rintro ⟨x,hx⟩ v kl y w' cnt' hk aA hv aB aC aD aE aF aG;have aH:kl=Iu x:=by
  have:=Fy hx;rw[hk]at this;injection this
 subst aH;have hy:y=(.held v,[]):=by
  have:some (DataW.held v,([]:List MemPlace))=some y:=hv;injection this with this;exact this.symm
 subst hy;have aI:m x=some v:=by
  have h1:=(hl x hx).2 .nil;rw[aB]at h1;cases hm:m x with
  | none=>rw[hm]at h1;cases h1
  | some u=>
   rw[hm]at h1;injection h1 with h1;rw[h1]
 refine hMore x v _ w' cnt' hx aI (by unfold Ew;rw[aA];rfl) ?_ ?_ ⟨D,aC,hl⟩ aD aE aF aG
 ·unfold Ew;dsimp only;rw[WideAt.sameKey_self (A0p hx)];simp
 ·intro z hz aJ;unfold Ew;have:(Iu z).sameKey (Iu x)=false:=by
   cases hs:(Iu z).sameKey (Iu x) with
   | false=>rfl
   | true=>exact (B7b hz hx aJ (WideAt.sameKey_eq hs)).elim
  simp only[this,Bool.not_false,Bool.and_true]
end
end
section
theorem KS.put {w:World} {g o:Nat} {T:TypeId} {ds vs:List Value} {v:Value} {ks:List (List UInt8)} (h:KS w v ks) (hk:Bk w g T ds) (hd:C1e ds):KS (C9 w ⟨g,o,none⟩ vs) v ks:=by
 rcases h with h | ⟨h,hn,ht⟩
 ·exact .inl h
 ·refine .inr ⟨?_,hn,ht.putAt g vs o⟩;have:=C5s (o:=o) (vs:=vs) h hn hk hd;simpa using this
theorem B3g {L:List En} (ok:OkE L) {p p':List UInt8→Bool} {x:List UInt8} (hp:∀y:List UInt8,y.length=32→y≠x→p' y=p y) {y:List UInt8} (hy:y≠x):lookE (doneE p' L) y=lookE (doneE p L) y:=by
 rw[Tu ok,Tu ok];by_cases h:y.length=32
 ·rw[hp y h hy]
 ·rw[Bc fun q hq e=>h (by rw[←e];exact ok.id q hq)];split<;>split<;>rfl
theorem MapR.row {w:World} {b r n cnt:Nat} {m:List UInt8→Option Value} {left:Lit→Bool} (h:MapR w b r n m left cnt):∀k,some r=some k→∃o:Obj,w.heap[k]?=some o∧o.isCells=false:=by
 obtain⟨D,⟨es,aA,aB,aC,c0,_,_,_,_,h5,_⟩,_⟩:=h;intro k e;injection e with e;subst e;exact ⟨_,h5,rfl⟩
theorem C5y (w:World) (e:Int) (b:Nat):(Instr.build 34 #[(0,.int .i64 e),(2,.map (some b))]).run Tryz.prog w=.ok (.agg #[.int .i64 e,.pointer none,.int .i64 0,.map (some b)]) w:=by kernel_rfl
structure BdI (w wr : World) (b n : Nat) (m : List UInt8 → Option Value) (L : List En) (e : Int) (p : List UInt8 → Bool) (left : Lit → Bool) (cnt : Nat) (ap : Option Addr) (md : List UInt8 → Option Value) (t : Tr) (n' : Nat) : Prop where
 rg:MapR wr b (w.heap.size+3) n m left cnt
 k4:Bk wr w.heap.size 34 [.int .i64 0,.pointer none,.int .i64 0,.map none]
 kd:Bk wr (w.heap.size+2) 34 [.int .i64 e,.pointer ap,.int .i64 0,.map (some (w.heap.size+1))]
 mv:MapV wr (w.heap.size+1) n' md
 ks:∀k,KS wr ((md k).getD (.slice none 0 0)) (lookE (doneE p L) k)
 okt:Okt t
 prs:t.pairs=pairsE (doneE p L)
 tr:At wr wr.heap.size t (.pointer ap)
 hn:n'+cnt≤n
 sm:∀q∈L,p q.1=true→q.2.length≤64
 below:Below w.heap.size w wr
 z:w.heap.size+4≤wr.heap.size
 hb:b<w.heap.size
section
variable {w wr w' : World} {b n n' cnt cnt' : Nat} {m md : List UInt8 → Option Value} {L : List En} {e : Int} {p : List UInt8 → Bool} {left left' : Lit → Bool} {ap : Option Addr} {t : Tr}
theorem BdI.up (h:BdI w wr b n m L e p left cnt ap md t n') (hb:Below wr.heap.size wr w'):BdI w w' b n m L e p left cnt ap md t n':=
 ⟨h.rg.below hb,h.k4.below hb h.k4.lt,h.kd.below hb h.kd.lt,h.mv.below hb (Nat.le_refl _),fun k=>(h.ks k).up hb,h.okt,h.prs,(h.tr.below hb).more hb.size,h.hn,h.sm,C0 h.below hb h.below.size,Nat.le_trans h.z hb.size,h.hb⟩
theorem BdI.next (h:BdI w wr b n m L e p left cnt ap md t n') (hg:wr.grownBy w' (some (w.heap.size+3))) (hr:MapR w' b (w.heap.size+3) n m left' cnt') (hc:cnt'<cnt):BdI w w' b n m L e p left' cnt' ap md t n':=
 have aA:=h.rg.row
 ⟨hr,Y9 h.k4 hg aA,Y9 h.kd hg aA,h.mv.kept hg (by simp),fun k=>B5f (h.ks k) hg aA,h.okt,h.prs,(Wk hg aA h.tr).more hg.size,by have:=h.hn;omega,h.sm,h.below.grown hg h.below.size (fun k hk=>by cases hk;omega),Nat.le_trans h.z hg.size,h.hb⟩
theorem BdI.skip (h:BdI w wr b n m L e (Ew left) left' cnt ap md t n') (ok:OkE L) {x:List UInt8} (hx:lookE L x=[]) (hp:∀y:List UInt8,y.length=32→y≠x→Ew left' y=Ew left y):BdI w wr b n m L e (Ew left') left' cnt ap md t n':=by
 have hd:=C1g ok hx hp;refine { h with ks:=fun k=>?_,prs:=?_,sm:=fun q hq hp'=>?_ }
 ·rw[hd];exact h.ks k
 ·rw[hd];exact h.prs
 ·have aA:q.1≠x:=fun e=>by
   have h1:=X2 ok.rise q hq;rw[e,hx]at h1;have h2:=ok.one q hq;rw[←h1]at h2;exact absurd h2 (by decide)
  exact h.sm q hq (by rw[←hp q.1 (ok.id q hq) aA];exact hp')
end
theorem C0t:((Tryz.prog.info? 34).bind (·.zero))=some (.agg #[.int .i64 0,.pointer none,.int .i64 0,.map none]):=by kernel_rfl
theorem A2a:RA' 34 #[.int .i64 0,.pointer none,.int .i64 0,.map none]:=fun w ρ dst ty pos after guard=>N8 w ρ dst ty pos after guard 34 (.agg #[.int .i64 0,.pointer none,.int .i64 0,.map none]) C0t
def C3v:Value:=.agg #[.int .i64 0,.pointer none,.int .i64 0,.map none]
attribute [local go_sem ↓ high] Hk Qr Re A2g A2a
theorem A4h (e:Int) (b n:Nat) (m:List UInt8→Option Value) (L:List En) (w:World) (hm:MapV w b n m) (ok:OkE L) (hK:∀k:List UInt8,k.length=32→Hs w 0 w.heap.size ((m k).getD (.slice none 0 0)) (lookE L k)) (hLl:L.length≤1000000) (hn:n≤1000000) :
 Calls Tryz.prog 26 #[.int .i64 e,.map (some b)] w fun x w'=>∃dv ec,x=.returned (.tuple #[dv,.int .i64 ec])∧Below w.heap.size w w'∧
  (((e<0∨∃q∈L,64<q.2.length)∧ec=2∧dv=C3v)∨(0≤e∧(∀q∈L,q.2.length≤64)∧ec=0∧DirIs w' dv e.toNat L n)):=by
 have hb:=hm.lt;obtain⟨w1,aR⟩:∃x,x=w.alloc (Obj.cells #[.int .i64 0,.pointer none,.int .i64 0,.map none] 34):=⟨_,rfl⟩;have B1:Below w.heap.size w w1:=by rw[aR];exact (Below.refl _ _).alloc (Nat.le_refl _) _
 have k1:Bk w1 w.heap.size 34 [.int .i64 0,.pointer none,.int .i64 0,.map none]:=by rw[aR];exact Bk.new w _ _
 have z1:w1.heap.size=w.heap.size+1:=by rw[aR];simp
 have eC:=B0b;have eD:=C5y;have cP:=@run_makeMap Tryz.prog;go_enter Tryz.func26,Tryz.ntmps26;by_cases he:e<0
 ·have hd:decide (e<0)=true:=decide_eq_true he;have aC:E8 w1 ⟨w.heap.size,0,none⟩ 4=true:=k1.can (by simp);rw[aR]at aC;go_wp2_with fail;rw[←aR];exact bodyPost_ret (P9 rfl (M5.row (k1.puts (vs:=[.int .i64 0,.pointer none,.int .i64 0,.map none]) (by simp)) rfl _ Gq rfl (by simp[Jf])) (M5.tmp rfl)) rfl ⟨_,_,rfl,C1 B1 (Nat.le_refl _) _,.inl ⟨.inl he,rfl,rfl⟩⟩
 ·obtain⟨E,rfl⟩:∃E:Nat,e=(E:Int):=⟨e.toNat,by omega⟩;have hd:decide ((E:Int)<0)=false:=decide_eq_false he;obtain⟨w2,aS⟩:∃x,x=(w1.alloc (.map #[] 0)).alloc (Obj.cells #[.int .i64 0,.pointer none,.int .i64 0,.map none] 34):=⟨_,rfl⟩;have k2:Bk w2 (w.heap.size+2) 34 [.int .i64 0,.pointer none,.int .i64 0,.map none]:=by rw[aS];have:=Bk.new (w1.alloc (.map #[] 0)) 34 [.int .i64 0,.pointer none,.int .i64 0,.map none];simpa [z1] using this
  have aC:E8 w2 ⟨w.heap.size+2,0,none⟩ 4=true:=k2.can (by simp);obtain⟨w3,aI⟩:∃x,x=C9 w2 ⟨w.heap.size+2,0,none⟩ [.int .i64 (E:Int),.pointer none,.int .i64 0,.map (some (w.heap.size+1))]:=⟨_,rfl⟩;have k3:Bk w3 (w.heap.size+2) 34 [.int .i64 (E:Int),.pointer none,.int .i64 0,.map (some (w.heap.size+1))]:=by rw[aI];exact k2.puts (by simp)
  have bV:Below w1.heap.size w1 w3:=by rw[aI,aS];exact C1 (((Below.refl _ _).alloc (Nat.le_refl _) _).alloc (by simp) _) (by simp[z1]) _
  have B3:=C0 B1 bV B1.size;have bK:=k1.below bV k1.lt;have z3:w3.heap.size=w.heap.size+3:=by rw[aI,aS];simp[z1]
  have bX:MapV w3 (w.heap.size+1) 0 (fun _=>none):=by rw[aI,aS,←z1];have h1:MapV ((w1.alloc (.map #[] 0)).alloc (Obj.cells #[.int .i64 0,.pointer none,.int .i64 0,.map none] 34)) w1.heap.size 0 (fun _=>none):=MapV.kept (row:=none) (MapV.made w1) (World.grownBy_alloc _ _ none) (by simp);exact h1.kept (row:=some (w.heap.size+2)) (Y0 _ _ _ _) (by rw[z1];simp)
  have bY:=hm.below B3 (Nat.le_refl _);rw[aS,aR]at aC aI;have aP:=bY;rw[aI]at aP;go_wp2_with (first | (at_range;refine B6f _ rfl _ rfl rfl aP ?_;rw[←aI];intro w4 aB bF bG aJ aT bZ) | fail);clear aP aC aI aS;rw[show w3.heap.size=w.heap.size+3 from z3]at bG;try rw[show w.heap.size+1+1+1=w.heap.size+3 from rfl]
  try rw[show w.heap.size+1+1=w.heap.size+2 from rfl]
  have aV:Below w3.heap.size w3 w4:=⟨aT.os,aT.tape,aT.output,aT.size,fun k hk=>aT.block k hk (by simp)⟩;have bH:doneE (Ew aB) L=[]:=C1k fun q hq=>by
   unfold Ew;rw[aJ q.1 (ok.id q hq)];have h1:=hK q.1 (ok.id q hq);rw[X2 ok.rise q hq]at h1;cases hmq:m q.1 with
   | some v=>rfl
   | none=>
    rw[hmq]at h1;obtain⟨_,A,c,h2,_⟩:=h1;injection h2 with _ h2 _;have h3:=ok.one q hq;omega
  have I0:BdI w w4 b n m L E (Ew aB) aB bF none (fun _=>none) .e 0:=
   ⟨bG,bK.below aV bK.lt,k3.below aV k3.lt,bX.below aV (Nat.le_refl _),fun k=>.inl ⟨rfl,by rw[bH];rfl⟩,Okt.nil,by rw[bH];rfl,rfl,by have:=bG.few;omega,
    fun q hq hp=>(by
     have:q∈doneE (Ew aB) L:=List.mem_filter.2 ⟨hq,hp⟩;rw[bH]at this;cases this),C0 B3 aV B3.size,by rw[bZ,z3];exact Nat.le_refl _,hb⟩
  clear bG aJ aT bZ aV bH k3 bK bX bY hm B3 B1 z1 z3 k1 hd cP;go_loopw [] (fun wr=>∃(aB:Lit→Bool) (bF:Nat) (ap:Option Addr) (md:List UInt8→Option Value) (t:Tr) (n':Nat),BdI w wr b n m L E (Ew aB) aB bF ap md t n') (fun wr=>wr.rangeLeft b (w.heap.size+3))
  case atStart=>exact ⟨_,_,_,_,_,_,I0⟩
  case round=>
   clear I0;obtain⟨aB,bF,ap,md,t,n',I⟩:=hrel;go_wp2_with (first | (at_next;refine C2a _ rfl _ rfl rfl I.rg ?_ ?_) | fail)
   ·intro eE aW;have hL:doneE (Ew aB) L=L:=C6t fun q _=>aW q.1;have r6:E5 wr ⟨w.heap.size+2,0,none⟩ 4=some [.int .i64 (E:Int),.pointer ap,.int .i64 0,.map (some (w.heap.size+1))]:=I.kd.rows;have aK:E8 wr ⟨w.heap.size,0,none⟩ 4=true:=I.k4.can (by simp);go_wp2_with fail;have aX:=I.ks;have aY:=I.prs;rw[hL]at aX aY;have hD:DirIs wr (.agg #[.int .i64 (E:Int),.pointer ap,.int .i64 0,.map (some (w.heap.size+1))]) E L n:=⟨ap,_,md,t,rfl,.inr ⟨_,n',by have:=I.hn;omega,rfl,I.mv⟩,aX,ok,I.okt,aY,I.tr⟩;exact bodyPost_ret (P9 rfl (M5.row (I.k4.puts (vs:=[.int .i64 (E:Int),.pointer ap,.int .i64 0,.map (some (w.heap.size+1))]) (by simp)) rfl _ Gq rfl (by simp[Jf])) (M5.tmp rfl)) rfl
     ⟨_,_,rfl,C1 I.below (Nat.le_refl _) _,.inr ⟨by omega,fun q hq=>I.sm q hq (aW q.1),rfl,hD.put I.k4 (A1b _ _ _ _) (by decide)⟩⟩
   ·intro x v aL wn aZ hx bL cB cC cQ bB cR cD cS eF;have In:=I.next cD bB cR;have cE:=I.rg.left_eq;have eG:n'+1+aZ≤n:=by have:=I.hn;omega
    have Hx:=Lib.hid cQ;have bM:=cB;have cF:=hK x hx;rw[bL]at cF;obtain⟨A,c,rfl,_,_⟩:=cF.form;generalize hgl:(lookE L x).length=nk at *;clear cD cS bB I cB;obtain⟨W,hW⟩:∃y,y=C9 (wn.alloc (Obj.cells (c8 (z8 32)).toArray 23)) ⟨wn.heap.size,0,none⟩ (c8 x):=⟨_,rfl⟩;have bN:=Bk.new wn 23 (c8 (z8 32));have aC:=Bk.can8 (n:=32) bN (by simp);have kx:Bk W wn.heap.size 23 (c8 x):=by rw[hW];exact Bk.put8 (n:=32) bN (by simp) hx
    have bW:Below wn.heap.size wn W:=by rw[hW];exact C1 ((Below.refl _ _).alloc (Nat.le_refl _) _) (Nat.le_refl _) _
    have IW:=In.up bW;have eH:w.heap.size+4≤wn.heap.size:=In.z;clear bN bW In;by_cases h64:64<nk
    ·have cT:decide ((64:Int)<(nk:Int))=true:=decide_eq_true (by omega);have cU:decide (64<nk)=true:=decide_eq_true h64;have aK:E8 W ⟨w.heap.size,0,none⟩ 4=true:=IW.k4.can (by simp);rw[hW]at aK;go_wp2_with fail;rw[←hW];refine bodyPost_ret (P9 rfl (M5.row (IW.k4.puts (vs:=[.int .i64 0,.pointer none,.int .i64 0,.map none]) (by simp)) rfl _ Gq rfl (by simp[Jf])) (M5.tmp rfl)) rfl ⟨_,_,rfl,C1 IW.below (Nat.le_refl _) _,.inl ⟨.inr ⟨(x,lookE L x),Tx (fun e=>?_),?_⟩,rfl,rfl⟩⟩
     ·rw[e]at hgl;simp at hgl;omega
     ·show 64<(lookE L x).length;rw[hgl];exact h64
    ·have cT:decide ((64:Int)<(nk:Int))=false:=decide_eq_false (by omega);have cU:decide (64<nk)=false:=decide_eq_false h64;rcases Nat.eq_zero_or_pos nk with hz | hpos
     ·have cV:lookE L x=[]:=List.eq_nil_of_length_eq_zero (by rw[hgl];exact hz);subst hz;have I2:=Lib.hid (IW.skip ok cV Hx.out);go_wp2_with fail;rw[←hW];go_roundw;case rel=>exact ⟨_,_,_,_,_,_,I2.out⟩
      case measure=>rw[I2.out.rg.left_eq,cE];omega
     ·have eI:decide ((0:Int)<(nk:Int))=true:=decide_eq_true (by omega);have eJ:decide (0<nk)=true:=decide_eq_true hpos;go_wp2_with fail;rw[←hW];clear hW aC;have S0:Below W.heap.size W W.drew:=(Below.refl _ _).drew;have I1:=IW.up S0;have bI:=kx.below S0 kx.lt;have Hv:=Lib.hid (show Hs W.drew 0 W.drew.heap.size (.slice A nk c) (lookE L x) from by
       have:=hK x hx;rw[bL]at this;exact (this.below I1.below).more I1.below.size)
      clear IW kx S0;generalize wn.heap.size=gx at *;refine F2 (fun X=>Bk X (w.heap.size+2) 34 [.int .i64 (E:Int),.pointer ap,.int .i64 0,.map (some (w.heap.size+1))]∧Bk X gx 23 (c8 x)) (by kernel_rfl) ?_;refine C6 (A:=?cW) [0,1,2,3] (by kernel_rfl) (by kernel_rfl) rfl (by kernel_rfl) (by kernel_rfl) ⟨I1.kd,bI⟩ (h:=fun X hX=>?bO) (hr:=?cX);case bO=>
       have f1:X.cell? ⟨w.heap.size+2,3,none⟩=some (.map (some (w.heap.size+1))):=hX.1.at_ (i:=3) rfl;have f2:E5 X ⟨gx,0,none⟩ 32=some (c8 x):=hX.2.row8 hx;simp only[pick,List.getElem?_cons_zero,List.getElem?_cons_succ];repeat (go_big_quiet_step (fail))
       refine wpQuiet_nil ?_;rfl
      refine C4 4 (by kernel_rfl) (by rfl) (by rfl) (fun Q' hQ'=>?_);dsimp only[E4];have aM:=Lib.hid hQ';clear hQ';go_wp2_with fail;refine (Xm (.slice A nk c) (lookE L x) W.drew Hv.out (by omega) (by omega)).mono ?_;rintro y w6 ⟨u,rfl,aE,b6⟩;have I6:=I1.up b6;have bP:=bI.below b6 bI.lt;have cY:=Lib.hid ((Hv.out.below b6).more b6.size);obtain⟨Ar,cr,rfl,cZ,dC⟩:=aE.form;go_wp2_with fail;refine aM.out _ _ ⟨I6.kd,bP⟩ ?_;clear aM I1 bI Hv b6;rw[hgl]at aE;obtain⟨D,hD,bC⟩:=I6.mv.put hx (.slice Ar nk cr);have dD:n'<maxLen:=by unfold maxLen;omega
      have aD:=I6.mv.row;refine C4 5 (by kernel_rfl) (by rfl) (by rfl) (fun Q' hQ'=>?_);dsimp only[E4];have aM:=Lib.hid hQ';clear hQ';go_wp2_with (first | (at_mapUpdate;refine wpList_mapUpdate_own _ rfl _ _ _ 32 rfl 23 42 Ck Tryz.underlying32 RV (w.heap.size+1) n' D rfl hD dD _ _ (Iu x) rfl rfl (Fy hx) (.held (.slice Ar nk cr)) [] rfl ?_;intro w7 aN aA) | fail);try dsimp only[Act.put]
      have cG:=bC w7 aN;have cH:=I6.rg.kept aA (by simp;omega) (by simp);have bQ:=Y9 I6.k4 aA aD;have aO:=Y9 I6.kd aA aD;have aH:=Y9 bP aA aD;have cI:=fun k=>B5f (I6.ks k) aA aD;have cJ:KS w7 (.slice Ar nk cr) (lookE L x):=B5f (.inr ⟨aE.hs.less (Nat.zero_le _),by omega,A8k aE.2⟩) aA aD;have cK:=(Wk aA aD I6.tr).more aA.size;have B7:=I6.below.grown aA I6.below.size (fun k hk=>by cases hk;omega);have z7:w.heap.size+4≤w7.heap.size:=Nat.le_trans I6.z aA.size;have cL:=Lib.hid (show Hs w7 0 w7.heap.size (.slice A nk c) (lookE L x) from by
       have:=hK x hx;rw[bL]at this;exact (this.below B7).more B7.size)
      have bD:=I6.okt;have cM:=I6.prs;have dF:=I6.sm;refine aM.out _ _ ⟨aO,aH⟩ ?_;clear aM bC aN aA aD I6 bP hD cY aE;refine I9 (by kernel_rfl) ?_;go_wp2_with fail;have S7:Below w7.heap.size w7 w7.drew:=(Below.refl _ _).drew;have dG:=Lib.hid ((cL.out.below S7).more S7.size);clear cL;refine F2 (fun X=>Bk X gx 23 (c8 x)) (by kernel_rfl) ?_;refine C6 (A:=?dI) [0,2,3] (by kernel_rfl) (by kernel_rfl) rfl (by kernel_rfl) (by kernel_rfl) aH.drew (h:=fun X hX=>?bR) (hr:=?dJ);case bR=>
       have f2:E5 X ⟨gx,0,none⟩ 32=some (c8 x):=hX.row8 hx;simp only[pick,List.getElem?_cons_zero,List.getElem?_cons_succ];repeat (go_big_quiet_step (fail))
       refine wpQuiet_nil ?_;rfl
      refine N9 [zv 1 35 (.agg #[.pointer ap,.int .i64 0]),zv 4 38 (A8 (Ay (lookE L x)))] (by kernel_rfl) (fun X hX=>aH.drew.below hX aH.drew.lt) ?dK ?dL ?dM;case dK=>exact List.forall_mem_cons.2 ⟨H7 _ _ _,List.forall_mem_cons.2 ⟨H7 _ _ _,fun _ h=>by cases h⟩⟩
      case dL=>
       refine List.forall_mem_cons.2 ⟨?dN,List.forall_mem_cons.2 ⟨?dO,fun _ h=>by cases h⟩⟩;case dN=>
        intro o ho us X hX hp Q' hQ';obtain rfl:=Option.some.inj ho;clear hp ho;have f1:E5 X ⟨w.heap.size+2,1,none⟩ 2=some [.pointer ap,.int .i64 0]:=(aO.drew.below hX aO.drew.lt).row (o:=1) (n:=2) (by simp);rw[C2]at hQ' ⊢;dsimp only[E4,E0,List.foldl,zv]at hQ' ⊢;simp only[List.set_cons_succ,List.set_cons_zero];go_wp2_with fail;exact C5 (hQ' _ _ (Below.refl _ _) rfl (fun h=>by cases h)) (by kernel_rfl)
       case dO=>intro o ho us X hX hp Q' hQ';obtain rfl:=Option.some.inj ho;clear hp ho;rw[C2]at hQ' ⊢;dsimp only[E4,E0,List.foldl,zv]at hQ' ⊢;simp only[List.set_cons_succ,List.set_cons_zero];have HX:=Lib.hid ((dG.out.below hX).more hX.size);go_wp2_with fail;refine (Nq _ (lookE L x) X HX.out (by omega)).mono ?_;rintro y w8 ⟨rfl,b8⟩;go_wp2_with fail;exact C5 (hQ' _ _ b8 rfl (fun h=>by cases h)) (by kernel_rfl)
      case dM=>
      intro vs w8 b8 hg bS dQ;have cN:vs 1=.agg #[.pointer ap,.int .i64 0]:=hg _ (List.mem_of_getElem? (i:=0) rfl);have cO:vs 4=A8 (Ay (lookE L x)):=hg _ (List.mem_of_getElem? (i:=1) rfl);rw[C2];dsimp only[E0,List.foldl,zv];simp only[List.set_cons_succ,List.set_cons_zero];rw[cN,cO];clear hg bS dQ cN cO;have aU:Below w7.heap.size w7 w8:=C0 S7 b8 S7.size;have dS:=aH.below aU aH.lt;have dT:=aO.below aU aO.lt;have bT:t.len≤1000000000000:=by
       rw[Tr.len_pairs,cM,Al];have:(doneE (Ew aB) L).length≤L.length:=List.length_filter_le _ _;omega
      refine C4 5 (by kernel_rfl) (by rfl) (by rfl) (fun Q' hQ'=>?_);dsimp only[E4];have aM:=Lib.hid hQ';clear hQ';go_wp2_with fail;refine (A1g x (Ay (lookE L x)) hx (Co _) 0 t P0 (.pointer ap) w8 (by omega) (fun i hi=>by omega) bD bT ((cK.below aU).more aU.size)).mono ?_;rintro y w9 ⟨q2,rfl,aQ,b9⟩;obtain⟨bU,rfl⟩:=aQ.form;have aG:Below w7.heap.size w7 w9:=C0 aU b9 aU.size;have bJ:=aH.below aG aH.lt;have bE:=aO.below aG aO.lt;have aC:E8 w9 ⟨w.heap.size+2,1,none⟩ 2=true:=bE.can (by simp);go_wp2_with fail;refine aM.out _ _ bJ ?_;clear aM dS dT;refine C4 6 (by kernel_rfl) (by rfl) (by rfl) (fun Q' hQ'=>?_);dsimp only[E4];go_wp2_with fail;refine hQ' _ _ bJ ?_;clear hQ';refine C4 7 (by kernel_rfl) (by rfl) (by rfl) (fun Q' hQ'=>?_);dsimp only[E4];go_wp2_with fail;obtain⟨wf,aF⟩:∃y,y=C9 w9 ⟨w.heap.size+2,1,none⟩ [.pointer bU,.int .i64 0]:=⟨_,rfl⟩;rw[←aF];have dU:Bk wf gx 23 (c8 x):=by rw[aF];exact bJ.putFar (by simp;omega) _
      have dW:lookE L x≠[]:=fun e=>by rw[e]at hgl;simp at hgl;omega
      have dX:=B9z ok dW bM cC Hx.out;obtain⟨dY,dZ⟩:=C3n (ks:=lookE L x) bD cM hx;have If:BdI w wf b n m L E (Ew aL) aL aZ bU (Mc md x (.slice Ar nk cr)) (Su t x (Ay (lookE L x))) (n'+1):=
       {
        rg:=by rw[aF];exact (cH.below aG).kept (row:=some (w.heap.size+2)) (Y0 w9 _ 1 _) (by simp;omega) (by simp),
        k4:=by rw[aF];exact (bQ.below aG bQ.lt).putFar (by simp) _,
        kd:=by rw[aF];exact (bE.set_ 1 _).set_ 2 _,
        mv:=by rw[aF];exact (cG.below aG (Nat.le_refl _)).kept (row:=some (w.heap.size+2)) (Y0 w9 _ 1 _) (by simp),
        ks:=fun k=>by
         rw[aF];refine KS.put ?_ bE (A1b _ _ _ _);unfold Mc;by_cases e:k=x
         ·rw[if_pos e,e,Tu ok,if_pos cC];exact cJ.up aG
         ·rw[if_neg e,B3g ok Hx.out e];exact (cI k).up aG,
        okt:=dY,
        prs:=by rw[dX];exact dZ,
        tr:=by rw[aF];unfold Su;have:=At.put_ bE (by decide) 1 [.pointer bU,.int .i64 0] aQ;simpa using this,
        hn:=by omega,
        sm:=fun q hq hp=>by
         by_cases e:q.1=x
         ·have h1:=X2 ok.rise q hq;rw[e]at h1;rw[←h1,hgl];omega
         ·exact dF q hq (by rw[←Hx.out q.1 (ok.id q hq) e];exact hp),
        below:=by rw[aF];exact C1 (C0 B7 aG B7.size) (by simp) _,
        z:=by rw[aF];have:=aG.size;simp;omega,
        hb:=hb }
      refine hQ' _ _ dU ?_;have If:=Lib.hid If;clear hQ' bE bJ aC aQ b9 b8 aG cI cG aO aH cK aF cJ cH bQ;refine I9 (by kernel_rfl) ?_;go_wp2_with fail;go_roundw;case rel=>exact ⟨_,_,_,_,_,_,If.out⟩
      case measure=>rw[If.out.rg.left_eq,cE];omega
end
end Go.Proofs.YtlegpkdighoflaaGreat
