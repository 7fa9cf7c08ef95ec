/- A part of the proof of DirPlays. -/
import Derived.Test.YtlegpkdighoflaaGreatRbn
import Derived.Test.YtlegpkdighoflaaGreatRbo
set_option linter.unusedVariables false
set_option linter.unusedSimpArgs false
set_option maxRecDepth 100000
set_option maxHeartbeats 40000000
namespace Go.Proofs.YtlegpkdighoflaaGreat
open Go Go.RowKit Sh
section
attribute [local go_sem] Oper.semAt_some
def OwI (w:World) (go z:Nat) (pre:List KV) (W:World):Prop:=∃v,Bk W go 42 [v]∧Ee W w.heap.size v (pre.map KV.id)∧Below w.heap.size w W∧go<z∧∀g,v.ownBlock=some g→g<z
theorem C2u (w:World) (go z:Nat) {B:Nat} (hB:w.heap.size≤B):OwnFrom B (OwI w go z):=by
 intro s X Y aB hs hg hr;obtain⟨v,h1,h2,h3,h4,h5⟩:=hs;have aA:∀r,aB=some r→∃o:Obj,X.heap[r]?=some o∧o.isCells=false:=fun r e=>(hr r e).2;refine ⟨v,Db h1 hg aA,⟨h2.1,World.ownsRow.kept h2.2 hg ?_⟩,h3.grown hg h3.size (fun k e=>Nat.le_trans hB (hr k e).1),h4,h5⟩;cases hv:v.ownBlock with
 | none=>exact .inl rfl
 | some k=>
  refine .inr fun e=>?_;obtain⟨o,ho,hc⟩:=aA k e.symm;rcases h2.2.2 with ⟨rfl,_⟩ | ⟨g',cap,cur,rfl,_,hh,_⟩
  ·cases hv
  ·injection hv with hv;subst hv;rw[hh]at ho;injection ho with ho;subst ho;cases hc
theorem D8o {w:World} {go z:Nat} {pre:List KV} {W W':World} (h:OwI w go z pre W) (hb:Below W.heap.size W W'):OwI w go z pre W':=by
 obtain⟨v,h1,h2,h3,h4,h5⟩:=h;exact ⟨v,h1.bl hb,h2.below hb (Nat.le_refl _),C2 h3 hb h3.size,h4,h5⟩
theorem C7p {W W':World} (hb:Below W.heap.size W W'):KT W W':=fun _ _ _ _ h=>h.bl hb
theorem KT.trans {A B C:World} (h:KT A B) (k:KT B C):KT A C:=fun i T cs ht hb=>k i T cs ht (h i T cs ht hb)
theorem KT.putObj {W:World} {r:Nat} {o:Obj} (o':Obj) (ho:W.heap[r]?=some o) (hc:o.isCells=false):KT W (W.putObj r o'):=fun k T cs _ hb=>by
 unfold Bk at hb ⊢;rw[World.putObj_heap_other (fun e=>by subst e;rw[hb]at ho;injection ho with ho;subst ho;cases hc)];exact hb
theorem D9f {n0 l:Nat} {A B C:World} (h:KpD n0 l A B) (k:KpD n0 l B C):KpD n0 l A C:=⟨h.1.trans k.1,⟨Nat.le_trans h.2.1.size k.2.1.size,fun r o hr ho hc=>k.2.1.same r o hr (h.2.1.same r o hr ho hc) hc⟩,h.2.2.trans k.2.2⟩
theorem E0p {n0:Nat} {w:World} (hn:n0≤w.heap.size) (W:World) (o o':Obj) (h1:W.heap[w.heap.size+1]?=some o) (h2:o.isCells=false) (h3:o.isWalk=false):KpD n0 (w.heap.size+1) W (W.putObj (w.heap.size+1) o'):=
 ⟨belowK_b hn W _ o o' (by omega) h1 h2 h3,⟨by simp,fun r o2 hr ho hc=>(World.putObj_heap_other (by omega)).trans ho⟩,KT.putObj o' h1 h2⟩
attribute [local go_sem ↓ high] Ju
theorem B9y (dv:Value) (e N:Nat) (L:List En) (w:World) (hD:DirIs w dv e L N) (hL:L.length≤1000000) (hks:∀x,(lookE L x).length≤1000000) :
 Calls Tryz.prog 22 #[dv] w fun x w'=>∃v,x=.returned v∧Ee w' w.heap.size v (L.map (·.1))∧Below w.heap.size w w':=by
 obtain⟨ap,mb,rfl⟩:=hD.form;obtain⟨t,ht⟩:=hD.tree;refine (callsIn_wide (n:=9)).1 ?_;refine callsIn_of_wp_marks Tryz.func22 rfl trivial ?_ rfl;simp only[Tryz.ntmps22,List.size_toArray,List.length_cons,List.length_nil,Nat.reduceAdd,Nat.reduceSub,Array.replicate_succ,Array.replicate_zero,List.push_toArray,List.append_toArray,Vb];refine wpIn_wide.2 ?_;obtain⟨w1,aM⟩:=E9 ((w.alloc (Obj.cells #[.int .i64 (e:Int),.pointer ap,.int .i64 0,.map mb] 34)).alloc (Obj.cells #[.slice none 0 0] 42));have aN:w1=O8 w [(34,[.int .i64 (e:Int),.pointer ap,.int .i64 0,.map mb]),(42,[.slice none 0 0])]:=aM;have B1:=Rf aN;have D1:=Um aN rfl;have G1:=Nm 1 aN rfl;have r1:C8 w1 ⟨w.heap.size,0,none⟩ 4=some [.int .i64 (e:Int),.pointer ap,.int .i64 0,.map mb]:=D1.rows;rw[aM]at r1;clear aN;go_wp2_with fail;rw[←aM];clear aM r1;refine (callsIn_wide.1 (B4g _ _ _ _ w1 5)).mono ?_;rintro x w4 ⟨rfl,aQ⟩;have T4:Bk w4 w1.heap.size 34 [.int .i64 (e:Int),.pointer ap,.int .i64 0,.map mb]:=by rw[aQ];exact Bk.new w1 _ _
 have aR:=BA' aQ;have G4:=G1.bl aR;have B4:=Q5 B1 aR;clear aQ aR G1 B1 D1;go_wp2_with fail;have aO:=B4.size;refine (wpIn_wide (n:=5)).1 ?_;refine B9r (F:=Fence.wide) (n:=5) rfl (by omega) (gf:=48) (lb:=#[.pointer (some ⟨w1.heap.size,0,none⟩)]) rfl trivial (enters_of Tryz.func48 (by kernel_rfl) rfl)
  (A5v w e N ap mb L t hD ht hks (5-1) w4 w1.heap.size B4 T4) (fun h k=>D9f h k) (E0p aO) (Below.refl _ _) (fun _=>rfl)
  (OwI w (w.heap.size+1)) (fun _ _ _=>False) (fun z=>C2u _ _ z aO) (fun _=>ownFrom_pure _ _)
  ⟨w4.heap.size,Nat.le_refl _,_,G4,Ee.nil _ _,B4,G4.lt,fun g h=>by cases h⟩
  (fun z aE Z x a' X=>OwI w (w.heap.size+1) z aE X∧∃gk:Nat,Bk X gk 23 (c8 x.id)∧a'={ tmps:=(.agg #[.int .i64 (e:Int),.pointer ap,.int .i64 0,.map mb] :: .pointer (some ⟨w.heap.size,0,none⟩) :: .slice none 0 0 :: .pointer (some ⟨w.heap.size+1,0,none⟩) :: .pointer (some ⟨gk,0,none⟩) :: .agg #[.int .i64 (e:Int),.pointer ap,.int .i64 0,.map mb] :: .func (.func 48) #[] #[.pointer (some ⟨w1.heap.size,0,none⟩)]::A8 x.id::x.v::undef::undef::undef::undef::undef::[]).toArray,defers:=[] })
  (fun z aE Z x a'=>by
   intro s X Y bB hs hg hr;obtain⟨h1,gk,h3,h5⟩:=hs;exact ⟨C2u _ _ z aO aE X Y bB h1 hg hr,gk,Db h3 hg (fun r e=>(hr r e).2),h5⟩) ?aD ?aG ?aH ?aI
 case aD=>
  rintro lp z aE ⟨k,ks,v,hk⟩ V K hI hz bU hK;simp only[D6i];have bC:P7 (V.alloc (Obj.cells (c8 (z8 32)).toArray 23)) ⟨V.heap.size,0,none⟩ 32=true:=(Bk.new V _ _).can (by simp);gi_wp2
  obtain⟨V1,aS⟩:=E9 (C4 (V.alloc (Obj.cells (c8 (z8 32)).toArray 23)) ⟨V.heap.size,0,none⟩ (c8 k));rw[←aS];have aF:Below V.heap.size V V1:=by rw[aS];exact C0 (Bh _ _) (Nat.le_refl _) _
  have K1:Bk V1 V.heap.size 23 (c8 k):=by rw[aS];exact Bk.fresh V _ (by simp[hk])
  have bD:w.heap.size≤V.heap.size:=by obtain⟨_,_,_,h,_⟩:=hI;exact h.size
  exact hK _ _ ((Ez aF).from _) ⟨aF.mono bD,(Ez aF).from _,C7p aF⟩ (Fp.ext aF) ⟨D8o hI aF,V.heap.size,K1,rfl⟩
 case aG=>
  rintro lp z aE ⟨k,ks,xv,hk⟩ a' Z V hl bV _ bX ⟨⟨v,G,O,Bw,bE,aX⟩,gk,Kk,rfl⟩ bY;have cg:V.cell? ⟨w.heap.size+1,0,none⟩=some v:=G.at_ rfl;have rk:=Kk.row8 hk;obtain⟨aA,aB⟩:=E9 (aE.map KV.id);have bZ:aA.length≤1000000:=by rw[aB];simp;omega
  rw[←aB]at O;have aJ:=Lib.hid aB;clear aB;have bF:w.heap.size≤V.heap.size:=Bw.size;have zg:=G.lt;have aT:=B0e O.2;have bG:v.ownBlock≠some (w.heap.size+1):=fun e=>by
   obtain⟨c1,f1,h1⟩:=aT _ e;unfold Bk at G;rw[G]at h1;injection h1 with h1;injection h1 with _ h1 _;exact absurd h1 (by decide)
  have aU:∀u∈c8 k,u.oneCell'=true:=by intro u hu;obtain⟨x,_,rfl⟩:=List.mem_map.1 hu;rfl
  obtain⟨A,c,rfl,_,-⟩:=O.form;gi_wp2_with (gi_at_builtin;refine E2v (Co lp) rfl (by intro c h;cases h) (fun Q' hQ'=>?_);refine Cn 42 23 (A8 (z8 32)) 32 32 Tryz.underlying42 A2x (by simp[A8,Value.cells]) (by decide) (by decide) rfl _ _ rfl rfl O.2 (c8 k) (by simp[hk]) aU _ rfl rfl rfl (by omega) bF ?_;intro A3 c3 w3 bH bI aY bJ aK bK;refine hQ' _ _ ?_;have G3:=G.grown aK (fun e=>bG e.symm);have f3:=G3.frozen 0;have cA:=G3.at_ (i:=0) rfl)
  have aK:V.grownBy w3 (Value.slice A aA.length c).ownBlock:=aK;have aV:∀g',(Value.slice A3 (aA.length+1) c3).ownBlock=some g'→w.heap.size+1≠g':=fun g' e h=>by
   subst h;obtain⟨c1,f1,h1⟩:=B0e aY _ e;unfold Bk at G3;rw[G3]at h1;injection h1 with h1;injection h1 with _ h1 _;exact absurd h1 (by decide)
  have bL:w3.grownBy (w3.setCell ⟨w.heap.size+1,0,none⟩ (.slice A3 (aA.length+1) c3)) (some (w.heap.size+1)):=⟨rfl,rfl,rfl,by simp,fun k' _ hk'=>Below.heap_setCell _ ⟨w.heap.size+1,0,none⟩ _ k' (fun e=>hk' (by rw[e]))⟩;have aZ:=World.ownsRow.kept aY bL (by
   cases hv:(Value.slice A3 (aA.length+1) c3).ownBlock with
   | none=>exact .inl rfl
   | some g'=>exact .inr fun e=>aV g' hv (by injection e with e;exact e.symm))
  have bA:Below w.heap.size V (w3.setCell ⟨w.heap.size+1,0,none⟩ (.slice A3 (aA.length+1) c3)):=bJ.setCell (p:=⟨w.heap.size+1,0,none⟩) (by simp) _;have aL:=KeepsOthers.of_grownBy aK (fun j o e ho=>by
   obtain⟨c1,f1,h1⟩:=aT j e;rw[h1]at ho;injection ho with ho;subst ho;rfl)
  have aC:∀(k' T:Nat) (cs:List Value),k'≠w.heap.size+1→(∀g,(Value.slice A aA.length c).ownBlock=some g→k'≠g)→Bk V k' T cs→Bk (w3.setCell ⟨w.heap.size+1,0,none⟩ (.slice A3 (aA.length+1) c3)) k' T cs:=fun k' T cs n1 n2 h=>(h.grown aK (fun e=>n2 _ e.symm rfl)).far (p:=⟨w.heap.size+1,0,none⟩) n1 _
  have bM:KT V (w3.setCell ⟨w.heap.size+1,0,none⟩ (.slice A3 (aA.length+1) c3)):=fun k' T cs hT h=>aC k' T cs
   (fun e=>by
    subst e;unfold Bk at h G;rw[h]at G;injection G with G;injection G with _ G _;subst G;revert hT;decide)
   (fun g hv e=>by
    subst e;obtain⟨c1,f1,h1⟩:=aT _ hv;unfold Bk at h;rw[h]at h1;injection h1 with h1;injection h1 with _ h1 _;subst h1;revert hT;decide) h
  have bN:Fp z V (w3.setCell ⟨w.heap.size+1,0,none⟩ (.slice A3 (aA.length+1) c3)):=fun k' T cs hz' h=>aC k' T cs (by omega) (fun g hv e=>by have:=aX g hv;omega) h;have bO:=(aL.trans (KeepsOthers.setCell _ ⟨w.heap.size+1,0,none⟩ (.slice A3 (aA.length+1) c3))).from w4.heap.size;have aW:=(aL.trans (KeepsOthers.setCell _ ⟨w.heap.size+1,0,none⟩ (.slice A3 (aA.length+1) c3))).from (w4.heap.size+1+1);refine ⟨bO,⟨bA,aW,bM⟩,bN,_,Nat.le_refl _,_,G3.set_ 0 _,⟨?_,?_⟩,Bw.trans bA,(G3.set_ 0 (.slice A3 (aA.length+1) c3)).lt,?_⟩
  ·rw[List.map_append,←aJ.out];intro q hq;rcases List.mem_append.1 hq with hq | hq
   ·exact O.1 q hq
   ·simp at hq;subst hq;exact hk
  ·rw[List.map_append,←aJ.out];have bP:c8 (aA.flatten++k)=c8 aA.flatten++c8 k:=by simp[c8]
   simpa [bP] using aZ
  ·intro g hv;rcases aZ.2 with ⟨h1,_⟩ | ⟨g',cap,cur,h1,_,hh,_⟩
   ·rw[h1]at hv;cases hv
   ·rw[h1]at hv;injection hv with hv;subst hv;exact (Array.getElem?_eq_some_iff.1 hh).1
 case aH=>
  rintro D z ys V bQ hS ⟨v,G,O,Bw,bE,aX⟩ aP;have cg:V.cell? ⟨w.heap.size+1,0,none⟩=some v:=G.at_ rfl;have aB:ys.map KV.id=L.map (·.1):=by rw[←hS,List.map_map];rfl
  rw[aB]at O;obtain⟨A,c,rfl,_,-⟩:=O.form;dsimp only;go_wp2_with fail;refine ⟨by simp,.inl ⟨_,_,rfl,run_takeDeferred aP,?_⟩⟩;have bR:=grownBy_putObj' V D (.deferred none);have bS:(Value.slice A (L.map (·.1)).length c).ownBlock=none∨(Value.slice A (L.map (·.1)).length c).ownBlock≠some D:=by
   cases hv:(Value.slice A (L.map (·.1)).length c).ownBlock with
   | none=>exact .inl rfl
   | some g'=>
    refine .inr fun e=>?_;injection e with e;subst e;obtain⟨c1,f1,h1⟩:=B0e O.2 _ hv;rw[aP]at h1;cases h1
  refine ⟨.slice A (L.map (·.1)).length c,by simp[results,Tryz.f22],⟨_,rfl,⟨O.1,World.ownsRow.kept O.2 bR bS⟩,Bw.trans (belowK_b (w:=w4) aO V D _ _ bQ aP rfl rfl)⟩⟩
 case aI=>rintro D cc aE V cB bT h aP;exact h.elim
end
section
attribute [local go_sem] Oper.semAt_some
theorem C9q {W:World} {g o:Nat} {r:Rw} (h:C8 W ⟨g,o,none⟩ 33=some r.cells) (hr:r.id.length=32):C8 W ⟨g,o,none⟩ 32=some (c8 r.id):=by
 obtain⟨_,h2⟩:=Cc.1 h;refine Cc.2 ⟨by simp[hr],fun j u hj=>h2 j u ?_⟩;unfold Rw.cells;rw[List.getElem?_append_left (List.getElem?_eq_some_iff.1 hj).1];exact hj
theorem C8z {W:World} {g o:Nat} {r:Rw} (h:C8 W ⟨g,o,none⟩ 33=some r.cells) (hr:r.id.length=32):W.cell? ⟨g,o+32,none⟩=some (.slice r.s.a r.s.n r.s.c):=by
 obtain⟨_,h2⟩:=Cc.1 h;refine h2 32 _ ?_;unfold Rw.cells;rw[List.getElem?_append_right (by simp[hr])];simp[hr,Sv.v]
theorem C4z (w:World) (ρ:Operand→Value) (dst:Option Tmp) (ty:TypeId) (pos:String) (after:Array Edge) (guard:Option (Nat×Bool)) (x:Operand) :
 (execOp ρ { dst,op:=.load 37 x,type:=ty,pos,after,guard }).run Tryz.prog w=Mf 2 w (L3 Tryz.prog ρ { dst,op:=.load 37 x,type:=ty,pos,after,guard } w) (ρ x):=Xi w ρ dst ty pos after guard x
def SmI (w:World) (gi:Nat) (dc xc:List Value) (z:Nat) (pre:List KV) (W:World):Prop:=
 Bk W gi 3 [.int .i64 (pre.length:Int)]∧Bk W (w.heap.size+1) 37 xc∧Bk W (w.heap.size+1+1) 4 [.bool false]∧Bk W w.heap.size 34 dc∧Below w.heap.size w W∧gi<z
theorem C1u (w:World) (gi:Nat) (dc xc:List Value) (z:Nat) {B:Nat} (hB:w.heap.size≤B):OwnFrom B (SmI w gi dc xc z):=by
 intro s X Y aB hs hg hr;obtain⟨h1,h2,h3,h4,h5,h6⟩:=hs;have aA:∀r,aB=some r→∃o:Obj,X.heap[r]?=some o∧o.isCells=false:=fun r e=>(hr r e).2;exact ⟨Db h1 hg aA,Db h2 hg aA,Db h3 hg aA,Db h4 hg aA,h5.grown hg h5.size (fun k e=>Nat.le_trans hB (hr k e).1),h6⟩
theorem D8h {w:World} {gi z:Nat} {dc xc:List Value} {pre:List KV} {W W':World} (h:SmI w gi dc xc z pre W) (hb:Below W.heap.size W W'):SmI w gi dc xc z pre W':=by
 obtain⟨h1,h2,h3,h4,h5,h6⟩:=h;exact ⟨h1.bl hb,h2.bl hb,h3.bl hb,h4.bl hb,C2 h5 hb h5.size,h6⟩
theorem C6r {i:Nat} (h:i<1000000):wrap64 ((i:Int)+1)=(i:Int)+1:=by unfold wrap64;omega
theorem D8w {pre:List KV} {x:KV} {L:List En} (h:(pre++[x]).map KV.en <+: L):L[pre.length]?=some x.en:=by
 obtain⟨r,hr⟩:=h;rw[←hr,List.map_append,List.append_assoc,List.getElem?_append_right (by simp)];simp
theorem B6m {A B:World} {row:Option Nat} {base sz m:Nat} {T:TypeId} {v:Value} {xs:List Value} (h:A.ownsRow base T sz v m xs) (hg:A.grownBy B row) (hr:∀r,row=some r→∃o:Obj,A.heap[r]?=some o∧o.isCells=false):B.ownsRow base T sz v m xs:=by
 refine World.ownsRow.kept h hg ?_;cases hv:v.ownBlock with
 | none=>exact .inl rfl
 | some k=>
  refine .inr fun e=>?_;obtain⟨o,ho,hc⟩:=hr k e.symm;rcases h.2 with ⟨rfl,_⟩ | ⟨g',cap,cur,rfl,_,hh,_⟩
  ·cases hv
  ·injection hv with hv;subst hv;rw[hh]at ho;injection ho with ho;subst ho;cases hc
attribute [local go_sem ↓ high] Ju C4z
theorem A4y (dv:Value) (e N:Nat) (L:List En) (ev:Value) (w:World) (hD:DirIs w dv e L N) (hE:Es w w.heap.size ev L) (hL:L.length≤1000000) (hks:∀x,(lookE L x).length≤1000000) :
 Calls Tryz.prog 24 #[dv,.agg #[.int .i64 (e:Int),ev]] w fun x w'=>x=.returned (.bool true)∧Below w.heap.size w w':=by
 obtain⟨ap,mb,rfl⟩:=hD.form;obtain⟨t,ht⟩:=hD.tree;obtain⟨Ae,ce,rfl,hce1,-⟩:=hE.form;obtain⟨n,hn⟩:=E9 (L.length);have HN:=Lib.hid hn;have hq:∀q∈L,q.2.length≤1000000:=fun q hq=>by rw[←Gd hD.okE.rise q hq];exact hks _
 have dL:t.len=n:=by rw[Tr.len_pairs,ht.prs,Cg,hn]
 have eT:=t.root_length;rw[←hn]at hE hce1 ⊢;clear hn;refine (callsIn_wide (n:=9)).1 ?_;refine callsIn_of_wp_marks Tryz.func24 rfl trivial ?_ rfl;simp only[Tryz.ntmps24,List.size_toArray,List.length_cons,List.length_nil,Nat.reduceAdd,Nat.reduceSub,Array.replicate_succ,Array.replicate_zero,List.push_toArray,List.append_toArray,Vb];refine wpIn_wide.2 ?_;obtain⟨w1,aG⟩:=E9 (((w.alloc (Obj.cells #[.int .i64 (e:Int),.pointer ap,.int .i64 0,.map mb] 34)).alloc (Obj.cells #[.int .i64 (e:Int),.slice Ae n ce] 37)).alloc (Obj.cells #[.bool false] 4));have aS:w1=O8 w [(34,[.int .i64 (e:Int),.pointer ap,.int .i64 0,.map mb]),(37,[.int .i64 (e:Int),.slice Ae n ce]),(4,[.bool false])]:=aG;have B1:=Rf aS;have D1:=Um aS rfl;have X1:=Nm 1 aS rfl;have R1:=Nm 2 aS rfl;clear aS;go_wp2_with fail;rw[←aG];clear aG;have S0:=Kg w1;have D2:=D1.bl S0;have X2:=X1.bl S0;have R2:=R1.bl S0;have B2:=Q5 B1 S0;have bK:=hD.up B2;have cH:=hE.up B2;clear D1 X1 R1 S0 B1;refine Jh (fun X=>Bk X w.heap.size 34 [.int .i64 (e:Int),.pointer ap,.int .i64 0,.map mb]∧Bk X (w.heap.size+1) 37 [.int .i64 (e:Int),.slice Ae n ce]) ?_;refine Fs (A:=?eU) [0,2,3] ⟨D2,X2⟩ (fun X hX=>?aG) ?eV;case aG=>have f1:C8 X ⟨w.heap.size,0,none⟩ 4=some [.int .i64 (e:Int),.pointer ap,.int .i64 0,.map mb]:=hX.1.rows;have f3:X.cell? ⟨w.heap.size+1,0,none⟩=some (.int .i64 (e:Int)):=hX.2.at_ rfl;exact Gq
 refine Ci 1 fun Q' hQ'=>?_;dsimp only[C7];have aA:=Lib.hid hQ';clear hQ';go_wp2_with fail;refine (A7z bK).mono ?_;rintro x w5 ⟨rfl,b5⟩;have D5:=D2.bl b5;have X5:=X2.bl b5;have R5:=R2.bl b5;have bP:=bK.up b5;have cI:=cH.up b5;have B5:=Q5 B2 b5;clear b5 B2 bK cH D2 X2 R2;go_wp2_with fail;refine aA.out _ _ ⟨D5,X5⟩ ?_;clear aA;refine Fs (A:=?eX) [4,5,6,8] ⟨D5,X5⟩ (fun X hX=>?dM) ?eY;case dM=>
  have f1:C8 X ⟨w.heap.size,0,none⟩ 4=some [.int .i64 (e:Int),.pointer ap,.int .i64 0,.map mb]:=hX.1.rows;have f2:C8 X ⟨w.heap.size+1,0,none⟩ 2=some [.int .i64 (e:Int),.slice Ae n ce]:=hX.2.rows;simp only[List.append_eq,Vb,pick,Wt];repeat (go_big_quiet_step (fail))
  refine wpQuiet_nil ?_;rfl
 refine Ci 7 fun Q' hQ'=>?_;dsimp only[C7];have aA:=Lib.hid hQ';clear hQ';go_wp2_with fail;refine (A2i bP ht).mono ?_;rintro x w6 ⟨rfl,b6⟩;have D6:=D5.bl b6;have X6:=X5.bl b6;have R6:=R5.bl b6;have cJ:=bP.up b6;have bQ:=cI.up b6;have B6:=Q5 B5 b6;clear b6 B5 bP cI D5 X5 R5;go_wp2_with fail;refine aA.out _ _ ⟨D6,X6⟩ ?_;clear aA;refine Ci 9 fun Q' hQ'=>?_;dsimp only[C7];have aA:=Lib.hid hQ';clear hQ';go_wp2_with fail;refine (A6t _ _ L t ht w6 bQ hL hq).mono ?_;rintro x w7 ⟨rfl,b7⟩;have D7:=D6.bl b7;have X7:=X6.bl b7;have R7:=R6.bl b7;have cK:=cJ.up b7;have cL:=bQ.up b7;have B7:=Q5 B6 b7;clear b7 B6 cJ bQ D6 X6 R6;go_wp2_with fail;refine aA.out _ _ ⟨D7,X7⟩ ?_;clear aA;refine Fs (A:=?eZ) [10,11,12,13,16] ⟨D7,X7⟩ (fun X hX=>?dN) ?fB;case dN=>
  have f1:C8 X ⟨w.heap.size,0,none⟩ 4=some [.int .i64 (e:Int),.pointer ap,.int .i64 0,.map mb]:=hX.1.rows;have f2:C8 X ⟨w.heap.size+1,0,none⟩ 2=some [.int .i64 (e:Int),.slice Ae n ce]:=hX.2.rows;simp only[List.append_eq,Vb,pick,Wt];repeat (go_big_quiet_step (fail))
  refine wpQuiet_nil ?_;rfl
 refine Ci 14 fun Q' hQ'=>?_;dsimp only[C7];have aA:=Lib.hid hQ';clear hQ';go_wp2_with fail;refine (A8r _ _ _ _ w7).mono ?_;rintro x w8 ⟨rfl,b8⟩;have D8:=D7.bl b8;have X8:=X7.bl b8;have R8:=R7.bl b8;have bR:=cK.up b8;have cM:=cL.up b8;have B8:=Q5 B7 b8;clear b8 B7 cK cL D7 X7 R7;go_wp2_with fail;refine aA.out _ _ ⟨D8,X8⟩ ?_;clear aA;refine Ci 15 fun Q' hQ'=>?_;dsimp only[C7];have aA:=Lib.hid hQ';clear hQ';go_wp2_with fail;refine (Yy t (.pointer ap) 0 w8 (C8w bR ht)).mono ?_;rintro x w9 ⟨rfl,b9⟩;have D9:=D8.bl b9;have X9:=X8.bl b9;have R9:=R8.bl b9;have cN:=bR.up b9;have bS:=cM.up b9;have B9:=Q5 B8 b9;clear b9 B8 bR cM D8 X8 R8;go_wp2_with fail;refine aA.out _ _ ⟨D9,X9⟩ ?_;clear aA;refine Ci 17 fun Q' hQ'=>?_;dsimp only[C7];have aA:=Lib.hid hQ';clear hQ';go_wp2_with fail;refine (A6t _ _ L t ht w9 bS hL hq).mono ?_;rintro x dO ⟨rfl,aH⟩;have bL:=D9.bl aH;have bM:=X9.bl aH;have cO:=R9.bl aH;have aT:=cN.up aH;have aU:=bS.up aH;have cP:=Q5 B9 aH;clear aH B9 cN bS D9 X9 R9;go_wp2_with fail;refine aA.out _ _ ⟨bL,bM⟩ ?_;clear aA;refine Fs (A:=?fC) [18,19,20,21,24,25,26] ⟨bL,bM⟩ (fun X hX=>?dQ) ?fD;case dQ=>
  have f1:C8 X ⟨w.heap.size,0,none⟩ 4=some [.int .i64 (e:Int),.pointer ap,.int .i64 0,.map mb]:=hX.1.rows;have f4:X.cell? ⟨w.heap.size+1,1,none⟩=some (.slice Ae n ce):=hX.2.at_ rfl;simp only[List.append_eq,Vb,pick,Wt];repeat (go_big_quiet_step (fail))
  refine wpQuiet_nil ?_;rfl
 refine Ci 22 fun Q' hQ'=>?_;dsimp only[C7];have aA:=Lib.hid hQ';clear hQ';go_wp2_with fail;refine (A8r _ _ _ _ dO).mono ?_;rintro x dS ⟨rfl,aI⟩;have bT:=bL.bl aI;have bU:=bM.bl aI;have cQ:=cO.bl aI;have aJ:=aT.up aI;have aV:=aU.up aI;have cR:=Q5 cP aI;clear aI cP aT aU bL bM cO;go_wp2_with fail;refine aA.out _ _ ⟨bT,bU⟩ ?_;clear aA;refine Ci 23 fun Q' hQ'=>?_;dsimp only[C7];have aA:=Lib.hid hQ';clear hQ';go_wp2_with fail;refine (Ig t (.pointer ap) 0 dS (C8w aJ ht)).mono ?_;rintro x bV ⟨rfl,aK⟩;have aW:=bT.bl aK;have bN:=bU.bl aK;have bX:=cQ.bl aK;have aX:=aJ.up aK;have aY:=aV.up aK;have cS:=Q5 cR aK;clear aK cR aJ aV bT bU cQ;go_wp2_with fail;refine aA.out _ _ ⟨aW,bN⟩ ?_;clear aA;refine Fs (A:=?fE) [27,28] ⟨aW,bN⟩ (fun X hX=>?dT) ?fF;case dT=>
  simp only[List.append_eq,Vb,pick,Wt];repeat (go_big_quiet_step (fail))
  refine wpQuiet_nil ?_;rfl
 refine It ?_;have r1:C8 (bV.alloc (Obj.cells #[.int .i64 0] 3)) ⟨w.heap.size,0,none⟩ 4=some [.int .i64 (e:Int),.pointer ap,.int .i64 0,.map mb]:=(aW.alloc _).rows;go_wp2_with fail;clear r1;obtain⟨aQ,aC⟩:=E9 (bV.alloc (Obj.cells #[.int .i64 0] 3));rw[←aC];have aL:=BA' aC;have cT:=KN' aC;have cU:=aW.bl aL;have cV:=bN.bl aL;have cW:=bX.bl aL;have bY:=aX.up aL;have bZ:=aY.up aL;have cX:=Q5 cS aL;have zR:=bX.lt;generalize bV.heap.size=gi at *;clear aC aL cS aW bN bX aX aY;refine (callsIn_wide.1 (B4g _ _ _ _ aQ 5)).mono ?_;rintro x bO ⟨rfl,aM⟩;have dU:Bk bO aQ.heap.size 34 [.int .i64 (e:Int),.pointer ap,.int .i64 0,.map mb]:=by rw[aM];exact Bk.new aQ _ _
 have aR:=BA' aM;have cY:=cT.bl aR;have dW:=cU.bl aR;have dX:=cV.bl aR;have dY:=cW.bl aR;have cA:=Q5 cX aR;clear aM aR cT cU cV cW bY bZ cX;go_wp2_with fail;have aD:=cA.size;have fG:w.heap.size+1+1<gi:=zR;refine (wpIn_wide (n:=5)).1 ?_;refine B9r (F:=Fence.wide) (n:=5) rfl (by omega) (gf:=48) (lb:=#[.pointer (some ⟨aQ.heap.size,0,none⟩)]) rfl trivial (enters_of Tryz.func48 (by kernel_rfl) rfl)
  (A5v w e N ap mb L t hD ht hks (5-1) bO aQ.heap.size cA dU) (fun h k=>D9f h k) (E0p aD) (Below.refl _ _) (fun _=>rfl)
  (SmI w gi [.int .i64 (e:Int),.pointer ap,.int .i64 0,.map mb] [.int .i64 (e:Int),.slice Ae n ce]) (fun _ _ _=>False) (fun z=>C1u _ _ _ _ z aD) (fun _=>ownFrom_pure _ _)
  ⟨bO.heap.size,Nat.le_refl _,cY,dX,dY,dW,cA,cY.lt⟩
  (fun z aE Z x a' X=>L[aE.length]?=some x.en∧SmI w gi [.int .i64 (e:Int),.pointer ap,.int .i64 0,.map mb] [.int .i64 (e:Int),.slice Ae n ce] z aE X∧Ee X w.heap.size x.v x.ks∧∃gk:Nat,Bk X gk 23 (c8 x.id)∧a'={ tmps:=(.agg #[.int .i64 (e:Int),.pointer ap,.int .i64 0,.map mb] :: .agg #[.int .i64 (e:Int),.slice Ae n ce] :: .pointer (some ⟨w.heap.size,0,none⟩) :: .pointer (some ⟨w.heap.size+1,0,none⟩) :: .pointer (some ⟨w.heap.size+1+1,0,none⟩) :: .pointer (some ⟨gi,0,none⟩) :: .pointer (some ⟨gk,0,none⟩)::x.v :: .agg #[.int .i64 (e:Int),.pointer ap,.int .i64 0,.map mb] :: .int .i64 (e:Int) :: .pointer (some ⟨w.heap.size+1,0,none⟩) :: .int .i64 (e:Int) :: .bool false :: .bool false :: .agg #[.int .i64 (e:Int),.pointer ap,.int .i64 0,.map mb]::A8 t.root :: .agg #[.int .i64 (e:Int),.slice Ae n ce]::A8 t.root :: .bool false :: .bool false :: .bool false :: .agg #[.int .i64 (e:Int),.pointer ap,.int .i64 0,.map mb] :: .agg #[.pointer ap,.int .i64 0]::A8 t.root :: .agg #[.int .i64 (e:Int),.slice Ae n ce]::A8 t.root :: .bool false :: .bool false :: .bool false :: .agg #[.int .i64 (e:Int),.pointer ap,.int .i64 0,.map mb] :: .agg #[.pointer ap,.int .i64 0] :: .int .i64 (n:Int) :: .pointer (some ⟨w.heap.size+1,1,none⟩) :: .slice Ae n ce :: .int .i64 (n:Int) :: .bool false :: .bool false :: .agg #[.int .i64 (e:Int),.pointer ap,.int .i64 0,.map mb] :: .func (.func 48) #[] #[.pointer (some ⟨aQ.heap.size,0,none⟩)]::A8 x.id::x.v::undef::undef::undef::undef::undef::undef::undef::undef::undef::undef::undef::undef::undef::undef::undef::undef::undef::undef::undef::undef::undef::undef::undef::undef::undef::undef::undef::undef::undef::undef::undef::undef::undef::undef::undef::undef::undef::undef::undef::undef::undef::[]).toArray,defers:=[] })
  (fun z aE Z x a'=>by
   intro s X Y cZ hs hg hr;obtain⟨h0,h1,h2,gk,h3,h5⟩:=hs;have cB:∀r,cZ=some r→∃o:Obj,X.heap[r]?=some o∧o.isCells=false:=fun r e=>(hr r e).2;exact ⟨h0,C1u _ _ _ _ z aD aE X Y cZ h1 hg hr,⟨h2.1,B6m h2.2 hg cB⟩,gk,Db h3 hg cB,h5⟩) ?aF ?aZ ?bA ?bB
 case aF=>
  rintro lp z aE ⟨k,ks,v,hk⟩ V K hI hz dC hK;simp only[D6i];have dZ:P7 (V.alloc (Obj.cells (c8 (z8 32)).toArray 23)) ⟨V.heap.size,0,none⟩ 32=true:=(Bk.new V _ _).can (by simp);gi_wp2
  obtain⟨V1,cC⟩:=E9 (C4 (V.alloc (Obj.cells (c8 (z8 32)).toArray 23)) ⟨V.heap.size,0,none⟩ (c8 k));rw[←cC];have aN:Below V.heap.size V V1:=by rw[cC];exact C0 (Bh _ _) (Nat.le_refl _) _
  have K1:Bk V1 V.heap.size 23 (c8 k):=by rw[cC];exact Bk.fresh V _ (by simp[hk])
  have eA:w.heap.size≤V.heap.size:=hI.2.2.2.2.1.size;exact hK _ _ ((Ez aN).from _) ⟨aN.mono eA,(Ez aN).from _,C7p aN⟩ (Fp.ext aN) ⟨D8w dC.2,D8h hI aN,dC.1.below aN (Nat.le_refl _),V.heap.size,K1,rfl⟩
 case aZ=>
  rintro lp z aE ⟨k,ks,xv,hk⟩ a' Z V hl fH _ fI ⟨bC,⟨G,X,R,D,Bw,eB⟩,O,gk,Kk,rfl⟩ eC;have eD:aE.length<n:=by rw[HN.out];exact (List.getElem?_eq_some_iff.1 bC).1
  have dD:=hE.up Bw;obtain⟨ge,oe,r,rfl,dF,eE,aO⟩:=dD.at_ bC;obtain⟨hr1,cB,hr3,hr4,-⟩:=eE;replace hr1:r.id=k:=hr1;replace hr4:Hs V 0 V.heap.size r.s.v ks:=hr4;have aB:r.id.length=32:=by rw[hr1];exact hk
  have cD:=Gd hD.okE.rise (k,ks) (List.mem_of_getElem? bC);obtain⟨i,hi⟩:=E9 (aE.length);have HI:=Lib.hid hi;have HX:=Lib.hid bC;rw[←hi]at G eD aO;have eF:decide ((n:Int)≤(i:Int))=false:=decide_eq_false (by omega);have eG:decide (n≤i)=false:=decide_eq_false (by omega);have S0:=Kg V;have eH:=(hD.up Bw).up S0;have fJ:r.s.v=.slice r.s.a r.s.n r.s.c:=rfl;have dG:ge<V.drew.heap.size:=dF;have G3:=G.bl S0;have X3:=X.bl S0;have D3:=D.bl S0;have K3:=Kk.bl S0;have R3:=R.bl S0;have bD:C8 V.drew ⟨ge,oe+i*33,none⟩ 33=some r.cells:=aO;have O3:=O.below S0 (Nat.le_refl _);have H3:=hr4.below S0;have B3:=Q5 Bw S0;replace O:Ee V w.heap.size xv ks:=O;obtain⟨Ak,ck,hxv,_,-⟩:=O.form;subst hxv;have T3:=S0;clear hi bC dD aO hr4 Kk dF S0 eC;gi_wp2
  refine Xs (fun X=>Bk X gi 3 [.int .i64 (i:Int)]∧Bk X (w.heap.size+1) 37 [.int .i64 (e:Int),.slice (some ⟨ge,oe,none⟩) n ce]∧Bk X w.heap.size 34 [.int .i64 (e:Int),.pointer ap,.int .i64 0,.map mb]∧Bk X gk 23 (c8 k)∧C8 X ⟨ge,oe+i*33,none⟩ 33=some r.cells) (by kernel_rfl) ?_;refine Kq (Co lp) (by kernel_rfl) (A:=?fK) [0,1,2,3,4,5,6,7,8,9,10,11,12,13,14,15,16,17,18,19,20,21,22] (by kernel_rfl) (by kernel_rfl) rfl (by kernel_rfl) (by kernel_rfl) ⟨G3,X3,D3,K3,bD⟩ (h:=fun X hX=>?eI) (hr:=?fL);case eI=>
   have f1:X.cell? ⟨gi,0,none⟩=some (.int .i64 (i:Int)):=hX.1.at_ rfl;have f2:X.cell? ⟨w.heap.size+1,1,none⟩=some (.slice (some ⟨ge,oe,none⟩) n ce):=hX.2.1.at_ rfl;have f3:C8 X ⟨w.heap.size,0,none⟩ 4=some [.int .i64 (e:Int),.pointer ap,.int .i64 0,.map mb]:=hX.2.2.1.rows;have f4:=hX.2.2.2.1.row8 hk;have f5:=C9q hX.2.2.2.2 aB;have f6:=C8z hX.2.2.2.2 aB;rw[hr1]at f5;exact Gq
  refine Gw (Co lp) 23 (by kernel_rfl) (by rfl) (by kernel_rfl) (fun Q' hQ'=>?_);dsimp only[C7];have aA:=Lib.hid hQ';clear hQ';gi_wp2
  refine ⟨trivial,?_⟩;refine (CallsIn.inRound lp (callsIn_wide.2 (Yg _ _ ks V.drew ((O3.hs).less (Nat.zero_le _)) H3))).mono ?_;rintro x4 V4 ⟨rfl,b4⟩;have G4:=G3.bl b4;have X4:=X3.bl b4;have D4:=D3.bl b4;have K4:=K3.bl b4;have R4:=R3.bl b4;have aP:=(N6 (a:=⟨ge,oe+i*33,none⟩) b4 dG).trans bD;have bE:=Nat.lt_of_lt_of_le dG b4.size;have O4:=O3.below b4 (Nat.le_refl _);have H4:=(H3.below b4).more b4.size;have T4:=Q5 T3 b4;have B4:=Q5 B3 b4;have bF:=eH.up b4;gi_wp2
  refine aA.out _ _ ⟨G4,X4,D4,K4,aP⟩ ?_;clear aA;refine Kq (Co lp) (by kernel_rfl) (A:=?fM) [24,25,26,27,28,30] (by kernel_rfl) (by kernel_rfl) rfl (by kernel_rfl) (by kernel_rfl) ⟨G4,X4,D4,K4,aP⟩ (h:=fun X hX=>?eJ) (hr:=?fN);case eJ=>
   have f1:X.cell? ⟨gi,0,none⟩=some (.int .i64 (i:Int)):=hX.1.at_ rfl;have f2:X.cell? ⟨w.heap.size+1,1,none⟩=some (.slice (some ⟨ge,oe,none⟩) n ce):=hX.2.1.at_ rfl;have f3:C8 X ⟨w.heap.size,0,none⟩ 4=some [.int .i64 (e:Int),.pointer ap,.int .i64 0,.map mb]:=hX.2.2.1.rows;have f4:=hX.2.2.2.1.row8 hk;have f5:=C9q hX.2.2.2.2 aB;have f6:=C8z hX.2.2.2.2 aB;rw[hr1]at f5;simp only[List.append_eq,Vb,pick,Wt];repeat (go_big_quiet_step (fail))
   refine wpQuiet_nil ?_;rfl
  refine Gw (Co lp) 29 (by kernel_rfl) (by rfl) (by kernel_rfl) (fun Q' hQ'=>?_);dsimp only[C7];have aA:=Lib.hid hQ';clear hQ';gi_wp2
  refine ⟨trivial,?_⟩;refine (CallsIn.inRound lp (callsIn_wide.2 (Xj bF k hk (hks k)))).mono ?_;rintro x5 V5 ⟨u5,rfl,cE,b5⟩;have G5:=G4.bl b5;have X5:=X4.bl b5;have D5:=D4.bl b5;have K5:=K4.bl b5;have R5:=R4.bl b5;have bG:=(N6 (a:=⟨ge,oe+i*33,none⟩) b5 bE).trans aP;have bH:=Nat.lt_of_lt_of_le bE b5.size;have O5:=O4.below b5 (Nat.le_refl _);have H5:=(H4.below b5).more b5.size;have T5:=Q5 T4 b5;have B5:=Q5 B4 b5;have cF:=bF.up b5;rw[cD]at cE;obtain⟨Au,cu,hu5,_,-⟩:=cE.form;subst hu5;gi_wp2
  refine aA.out _ _ ⟨G5,X5,D5,K5,bG⟩ ?_;clear aA;refine Gw (Co lp) 31 (by kernel_rfl) (by rfl) (by kernel_rfl) (fun Q' hQ'=>?_);dsimp only[C7];have aA:=Lib.hid hQ';clear hQ';gi_wp2
  refine ⟨trivial,?_⟩;refine (CallsIn.inRound lp (callsIn_wide.2 (Yg _ _ ks V5 ((cE.hs).less (Nat.zero_le _)) ((O5.hs).less (Nat.zero_le _))))).mono ?_;rintro x6 V6 ⟨rfl,b6⟩;have G6:=G5.bl b6;have X6:=X5.bl b6;have D6:=D5.bl b6;have K6:=K5.bl b6;have R6:=R5.bl b6;have bI:=(N6 (a:=⟨ge,oe+i*33,none⟩) b6 bH).trans bG;have eK:=Nat.lt_of_lt_of_le bH b6.size;have O6:=O5.below b6 (Nat.le_refl _);have H6:=(H5.below b6).more b6.size;have T6:=Q5 T5 b6;have B6:=Q5 B5 b6;have eL:=cF.up b6;gi_wp2
  refine aA.out _ _ ⟨G6,X6,D6,K6,bI⟩ ?_;clear aA;refine Kq (Co lp) (by kernel_rfl) (A:=?fO) [32,33] (by kernel_rfl) (by kernel_rfl) rfl (by kernel_rfl) (by kernel_rfl) ⟨G6,X6,D6,K6,bI⟩ (h:=fun X hX=>?eM) (hr:=?fP);case eM=>
   have f1:X.cell? ⟨gi,0,none⟩=some (.int .i64 (i:Int)):=hX.1.at_ rfl;have f2:X.cell? ⟨w.heap.size+1,1,none⟩=some (.slice (some ⟨ge,oe,none⟩) n ce):=hX.2.1.at_ rfl;have f3:C8 X ⟨w.heap.size,0,none⟩ 4=some [.int .i64 (e:Int),.pointer ap,.int .i64 0,.map mb]:=hX.2.2.1.rows;have f4:=hX.2.2.2.1.row8 hk;have f5:=C9q hX.2.2.2.2 aB;have f6:=C8z hX.2.2.2.2 aB;rw[hr1]at f5;simp only[List.append_eq,Vb,pick,Wt];repeat (go_big_quiet_step (fail))
   refine wpQuiet_nil ?_;rfl
  refine Vo (by kernel_rfl) ?_;have ci:V6.cell? ⟨gi,0,none⟩=some (.int .i64 (i:Int)):=G6.at_ rfl;have fi:=G6.frozen 0;gi_wp2
  have eN:i<1000000:=by have:=HN.out;omega
  have aG:=C6r eN;rw[aG];have dI:w.heap.size≤gi:=by omega
  have dJ:=(Ez T6).trans (KeepsOthers.setCell V6 ⟨gi,0,none⟩ (.int .i64 ((i:Int)+1)));have bJ:∀(k' T:Nat) (cs:List Value),k'≠gi→Bk V k' T cs→Bk (V6.setCell ⟨gi,0,none⟩ (.int .i64 ((i:Int)+1))) k' T cs:=fun k' T cs h1 h2=>(h2.bl T6).far (p:=⟨gi,0,none⟩) h1 _;refine ⟨dJ.from _,⟨(T6.mono Bw.size).setCell (p:=⟨gi,0,none⟩) dI _,dJ.from _,fun k' T cs hT h=>bJ k' T cs (fun e=>?_) h⟩,fun k' T cs hz' h=>bJ k' T cs (by omega) h,_,Nat.le_refl _,?_,X6.far (p:=⟨gi,0,none⟩) (by simp;omega) _,R6.far (p:=⟨gi,0,none⟩) (by simp;omega) _,D6.far (p:=⟨gi,0,none⟩) (by simp;omega) _,B6.setCell (p:=⟨gi,0,none⟩) dI _,?_⟩
  ·subst e;unfold Bk at h G;rw[h]at G;injection G with G;injection G with _ G _;subst G;revert hT;decide
  ·have:=G6.set_ 0 (.int .i64 ((i:Int)+1));rw[List.length_append,←HI.out];simpa using this
  ·have:=G6.lt;simpa using this
 case bA=>
  rintro D z ys V eO hS ⟨G,X,R,D0,Bw,eB⟩ dK;have eP:ys.length=n:=by have:=congrArg List.length hS;rw[List.length_map]at this;rw[this];exact HN.out.symm
  rw[eP]at G;have ci:V.cell? ⟨gi,0,none⟩=some (.int .i64 (n:Int)):=G.at_ rfl;have cs:V.cell? ⟨w.heap.size+1,1,none⟩=some (.slice Ae n ce):=X.at_ rfl;have cr:=R.at_ (i:=0) rfl;have fr:=R.frozen 0;dsimp only;go_wp2_with fail;have cG:=(KeepsOthers.setCell V ⟨w.heap.size+1+1,0,none⟩ (.bool true)).same D _ dK rfl;refine ⟨by simp,.inl ⟨_,_,rfl,run_takeDeferred cG,?_⟩⟩;have eQ:=cell_kept (World.cell?_setCell_same' V ⟨w.heap.size+1+1,0,none⟩ (.bool true) (by rw[cr];rfl)) (grownBy_putObj' _ D (.deferred none)) (fun r e=>by cases e;exact ⟨_,cG,rfl⟩);refine ⟨.bool true,?_,rfl,(Bw.setCell (p:=⟨w.heap.size+1+1,0,none⟩) (by simp;omega) _).trans (belowK_b (w:=bO) aD _ D _ _ eO cG rfl rfl)⟩;simp[results,Tryz.f24,go_sem,eQ]
 case bB=>rintro D cc aE V bK eS h dK;exact h.elim
end
section
section
variable {W W' : World} {row : Option Nat} {T : TypeId} {B : Nat}
theorem Ry.ne {T':TypeId} {g:Nat} (h:Ry W row T) (h':Ry W (some g) T') (hT:T'≠T):some g≠row:=by
 intro e;obtain⟨c,f,h1⟩:=h g e.symm;obtain⟨c',f',h2⟩:=h' g rfl;rw[h1]at h2;injection h2 with h2;injection h2 with _ h2;exact hT h2.symm
theorem B8k {g:Nat} {cs:List Value} (h:Bk W g T cs):Ry W (some g) T:=by
 intro g' hg;injection hg with hg;subst hg;exact ⟨_,_,h⟩
theorem Ry.grown {r:Option Nat} {T':TypeId} (h:Ry W r T') (hg:W.grownBy W' row) (hk:Ry W row T) (hT:T'≠T):Ry W' r T':=fun g e=>by
 obtain⟨c,f,h1⟩:=h g e;exact ⟨c,f,(hg.block g (Array.getElem?_eq_some_iff.1 h1).1 (hk.ne (fun g' e'=>by injection e' with e';subst e';exact ⟨c,f,h1⟩) hT)).trans h1⟩
theorem B1q {v:Value} {ks:List (List UInt8)} (h:Hs W 0 B v ks) (ht:Ry W v.ownBlock 23) (hg:W.grownBy W' row) (hk:Ry W row T) (hT:23≠T):Hs W' 0 B v ks:=by
 obtain⟨h0,A,c,h1,h2,h3,h4⟩:=h;refine ⟨h0,A,c,h1,h2,h3,?_⟩;rcases h4 with h4 | ⟨g,o,rfl,hl,hb,hc⟩
 ·exact .inl h4
 ·refine .inr ⟨g,o,rfl,hl,hb,fun j u hj=>?_⟩;obtain⟨aA,fz,h5⟩:=ht g (by rw[h1];rfl);have h6:W'.heap[g]?=W.heap[g]?:=hg.block g (Array.getElem?_eq_some_iff.1 h5).1 (hk.ne (fun g' e'=>by injection e' with e';subst e';exact ⟨aA,fz,h5⟩) hT);exact (World.cell?_of_block h6).trans (hc j u hj)
theorem A2e (hg:W.grownBy W' row) (hk:Ry W row T) (hT:147≠T):∀ {t:Tr} {p:Value},At W B t p→At W' B t p
 | .e,_,h=>h
 | .lf _ _,_,⟨g',h1,h2,h3,h4,h5⟩=>⟨g',h1,h2,h3,h4,h5.grown hg (hk.ne (B8k h5) hT)⟩
 | .nd _ _,_,⟨g',pl,pr,h1,h2,h3,h4,h5⟩=>⟨g',pl,pr,h1,h2,h3.grown hg (hk.ne (B8k h3) hT),A2e hg hk hT h4,A2e hg hk hT h5⟩
theorem DirIs.grown {dv:Value} {e N:Nat} {L:List En} (h:DirIs W dv e L N) (hg:W.grownBy W' row) (hk:Ry W row T) (h1:23≠T) (h2:147≠T):DirIs W' dv e L N:=by
 obtain⟨ap,mv,m,t,q1,q2,q3,q4,q5,q6,q7⟩:=h;refine ⟨ap,mv,m,t,q1,?_,fun k=>?_,q4,q5,q6,(A2e hg hk h2 q7).more hg.size⟩
 ·rcases q2 with q2 | ⟨b,n,hn,hb,hm⟩
  ·exact .inl q2
  ·refine .inr ⟨b,n,hn,hb,hm.kept hg fun e=>?_⟩;obtain⟨o,o1,o2⟩:=hm.row b rfl;obtain⟨c,f,o3⟩:=hk b e.symm;rw[o3]at o1;injection o1 with o1;subst o1;cases o2
 ·rcases q3 k with h | ⟨h,hn,ht⟩
  ·exact .inl h
  ·exact .inr ⟨(B1q h ht hg hk h1).more hg.size,hn,ht.grown hg hk h1⟩
theorem KdB.kdT {r:Option Nat} {T':TypeId} (h:KdB W B r T'):Ry W r T':=fun g e=>(h g e).2
theorem KdB.grown {r:Option Nat} {T':TypeId} (h:KdB W B r T') (hg:W.grownBy W' row) (hk:Ry W row T) (hT:T'≠T):KdB W' B r T':=fun g e=>⟨(h g e).1,(h.kdT.grown hg hk hT) g e⟩
theorem A8g (hg:W.grownBy W' row) (hk:Ry W row T) (h1:23≠T):∀ {R:List Rw} {L:List En},Cv W B R L→Cv W' B R L
 | [],[],_=>trivial
 | _::_,_::_,h=>⟨⟨h.1.1,h.1.2.1,h.1.2.2.1,B1q h.1.2.2.2.1 h.1.2.2.2.2.kdT hg hk h1,h.1.2.2.2.2.grown hg hk h1⟩,A8g hg hk h1 h.2⟩
 | [],_::_,h=>h.elim
 | _::_,[],h=>h.elim
theorem Es.grown {v:Value} {L:List En} (h:Es W B v L) (hg:W.grownBy W' row) (hk:Ry W row T) (h1:23≠T) (h2:44≠T):Es W' B v L:=by
 obtain⟨R,q1,A,c,q2,q3,q4,q5,q6⟩:=h;refine ⟨R,A8g hg hk h1 q1,A,c,q2,q3,q4,?_,q6.grown hg hk h2⟩;rcases q5 with q5 | ⟨g,o,rfl,hl,hb,hc⟩
 ·exact .inl q5
 ·refine .inr ⟨g,o,rfl,hl,hb,fun j u hj=>?_⟩;obtain⟨_,aA,fz,h5⟩:=q6 g (by rw[q2];rfl);have h6:W'.heap[g]?=W.heap[g]?:=hg.block g (Array.getElem?_eq_some_iff.1 h5).1 (hk.ne (fun g' e'=>by injection e' with e';subst e';exact ⟨aA,fz,h5⟩) h2);exact (World.cell?_of_block h6).trans (hc j u hj)
end
theorem C8m:(Tryz.prog.info? 34).map (fun i=>(i.zero,i.size,i.bytes))=some (some (.agg #[.int .i64 0,.pointer none,.int .i64 0,.map none]),4,32):=by kernel_rfl
theorem C0n:(Tryz.prog.info? 37).map (fun i=>(i.zero,i.size,i.bytes))=some (some (.agg #[.int .i64 0,.slice none 0 0]),2,32):=by kernel_rfl
@[go_sem ↓ high] theorem F8f (w : World) (ρ : Operand → Value) (dst : Option Tmp) (ty : TypeId) (pos : String) (after : Array Edge) (guard : Option (Nat × Bool)) (x : Operand) :
 (execOp ρ { dst,op:=.buildSlice 68 1 #[(0,x)],type:=ty,pos,after,guard }).run Tryz.prog w=Jp 4 34 w (L3 Tryz.prog ρ { dst,op:=.buildSlice 68 1 #[(0,x)],type:=ty,pos,after,guard } w) (ρ x):=
 Nu w ρ dst ty pos after guard 68 34 4 32 (.agg #[.int .i64 0,.pointer none,.int .i64 0,.map none]) x Tryz.underlying68 C8m (by simp[Value.cells]) (by decide) (by decide)
@[go_sem ↓ high] theorem F7e (w : World) (ρ : Operand → Value) (dst : Option Tmp) (ty : TypeId) (pos : String) (after : Array Edge) (guard : Option (Nat × Bool)) (x : Operand) :
 (execOp ρ { dst,op:=.buildSlice 69 1 #[(0,x)],type:=ty,pos,after,guard }).run Tryz.prog w=Jp 2 37 w (L3 Tryz.prog ρ { dst,op:=.buildSlice 69 1 #[(0,x)],type:=ty,pos,after,guard } w) (ρ x):=
 Nu w ρ dst ty pos after guard 69 37 2 32 (.agg #[.int .i64 0,.slice none 0 0]) x Tryz.underlying69 C0n (by simp[Value.cells]) (by decide) (by decide)
@[go_sem] theorem F6j (e : TypeId) (w : World) (raw : Result Next) (a b : Value) : Jp 2 e w raw (.agg #[a, b]) = .ok (.value (.slice (some ⟨w.heap.size, 0, none⟩) 1 1)) (w.alloc (.cells #[a, b] e)) := by
 rw[Zc,if_pos (by simp)]
end
section
structure Pq where
 ap:Option Addr
 mb:Option Nat
 A:Option Addr
 n:Nat
 c:Nat
def Pq.d (q:Pq) (e:Nat):List Value:=[.int .i64 (e:Int),.pointer q.ap,.int .i64 0,.map q.mb]
def Pq.x (q:Pq) (e:Nat):List Value:=[.int .i64 (e:Int),.slice q.A q.n q.c]
def dsC:Nat→List Pq→List Value
 | _,[]=>[]
 | e,q::l=>q.d e++dsC (e+1) l
def xsC:Nat→List Pq→List Value
 | _,[]=>[]
 | e,q::l=>q.x e++xsC (e+1) l
theorem B1y:∀(e:Nat) (l:List Pq) (q:Pq),dsC e (l++[q])=dsC e l++q.d (e+l.length)
 | e,[],q=>by simp[dsC]
 | e,p::l,q=>by
  show p.d e++dsC (e+1) (l++[q])=(p.d e++dsC (e+1) l)++q.d (e+(l.length+1));rw[B1y,List.append_assoc,show e+1+l.length=e+(l.length+1) by omega]
theorem B6l:∀(e:Nat) (l:List Pq) (q:Pq),xsC e (l++[q])=xsC e l++q.x (e+l.length)
 | e,[],q=>by simp[xsC]
 | e,p::l,q=>by
  show p.x e++xsC (e+1) (l++[q])=(p.x e++xsC (e+1) l)++q.x (e+(l.length+1));rw[B6l,List.append_assoc,show e+1+l.length=e+(l.length+1) by omega]
theorem D2q:∀ {e:Nat} {l:List Pq} {j:Nat} {q:Pq},l[j]?=some q→((dsC e l).drop (j*4)).take 4=q.d (e+j)
 | e,[],j,q,h=>by simp at h
 | e,p::l,0,q,h=>by
  obtain rfl:p=q:=by simpa using h
  simp[dsC,Pq.d]
 | e,p::l,j+1,q,h=>by
  have:=D2q (e:=e+1) (l:=l) (j:=j) (q:=q) (by simpa using h);show ((p.d e++dsC (e+1) l).drop ((j+1)*4)).take 4=_;rw[List.drop_append,List.drop_eq_nil_of_le (by simp[Pq.d];omega),List.nil_append,show (j+1)*4-(p.d e).length=j*4 by simp[Pq.d];omega,this,show e+1+j=e+(j+1) by omega]
theorem C9d:∀ {e:Nat} {l:List Pq} {j:Nat} {q:Pq},l[j]?=some q→((xsC e l).drop (j*2)).take 2=q.x (e+j)
 | e,[],j,q,h=>by simp at h
 | e,p::l,0,q,h=>by
  obtain rfl:p=q:=by simpa using h
  simp[xsC,Pq.x]
 | e,p::l,j+1,q,h=>by
  have:=C9d (e:=e+1) (l:=l) (j:=j) (q:=q) (by simpa using h);show ((p.x e++xsC (e+1) l).drop ((j+1)*2)).take 2=_;rw[List.drop_append,List.drop_eq_nil_of_le (by simp[Pq.x];omega),List.nil_append,show (j+1)*2-(p.x e).length=j*2 by simp[Pq.x];omega,this,show e+1+j=e+(j+1) by omega]
theorem A1y:∀(e:Nat) (l:List Pq),(dsC e l).length=l.length*4
 | _,[]=>rfl
 | e,q::l=>by
  show (q.d e++dsC (e+1) l).length=_;rw[List.length_append,A1y];simp[Pq.d];omega
theorem A1r:∀(e:Nat) (l:List Pq),(xsC e l).length=l.length*2
 | _,[]=>rfl
 | e,q::l=>by
  show (q.x e++xsC (e+1) l).length=_;rw[List.length_append,A1r];simp[Pq.x];omega
section
variable {w wr w' : World} {bs : List (List UV)} {dsv xsv : Value} {gD : Nat} {l lx : List Pq}
structure PlR (wr : World) (gD : Nat) (bs : List (List UV)) (xsv : Value) (lx l : List Pq) : Prop where
 xs:wr.ownsRow (gD+2) 37 2 xsv lx.length (xsC 0 lx)
 dir:∀j q,l[j]?=some q→∃N,DirIs wr (.agg (q.d j).toArray) j (allE (bs.take j)) N
 ref:∀j q,l[j]?=some q→Es wr wr.heap.size (.slice q.A q.n q.c) (allE (bs.take j))
 len:∀j q,l[j]?=some q→(allE (bs.take j)).length≤12*j∧∀x,(lookE (allE (bs.take j)) x).length≤12*j
def DsR (wr:World) (gD:Nat) (v:Value) (l:List Pq):Prop:=wr.ownsRow (gD+2) 34 4 v l.length (dsC 0 l)
theorem PlR.nil (wr:World) (gD:Nat) (bs:List (List UV)):PlR wr gD bs (.slice none 0 0) [] []:=⟨World.ownsRow_nil _ _ _ _,fun j q h=>by simp at h,fun j q h=>by simp at h,fun j q h=>by simp at h⟩
theorem PlR.up (h:PlR wr gD bs xsv lx l) (hb:Below wr.heap.size wr w'):PlR w' gD bs xsv lx l:=
 ⟨Aw h.xs hb (Nat.le_refl _),fun j q hq=>by obtain⟨N,hN⟩:=h.dir j q hq;exact ⟨N,hN.up hb⟩,fun j q hq=>(h.ref j q hq).up hb,h.len⟩
theorem PlR.put {g o:Nat} {T:TypeId} {ds vs:List Value} (h:PlR wr gD bs xsv lx l) (hk:Bk wr g T ds) (hd:B0l ds) (hg:g<gD+2) (hT:T≠147):PlR (C4 wr ⟨g,o,none⟩ vs) gD bs xsv lx l:=
 ⟨Nz h.xs hg vs,fun j q hq=>by obtain⟨N,hN⟩:=h.dir j q hq;exact ⟨N,hN.put hk hd hT⟩,fun j q hq=>by have:=(h.ref j q hq).put (o:=o) (vs:=vs) hk hd;simpa using this,h.len⟩
theorem PlR.push {q:Pq} (h:PlR wr gD bs xsv lx l) (hd:∃N,DirIs wr (.agg (q.d l.length).toArray) l.length (allE (bs.take l.length)) N) (hx:Es wr wr.heap.size (.slice q.A q.n q.c) (allE (bs.take l.length))) (hn:(allE (bs.take l.length)).length≤12*l.length∧∀x,(lookE (allE (bs.take l.length)) x).length≤12*l.length):PlR wr gD bs xsv lx (l++[q]):=by
 have aA:∀ {j:Nat} {p:Pq},(l++[q])[j]?=some p→l[j]?=some p∨(j=l.length∧p=q):=fun {j p} hp=>by
  rcases Nat.lt_or_ge j l.length with h1 | h1
  ·rw[List.getElem?_append_left h1]at hp;exact .inl hp
  ·rw[List.getElem?_append_right h1]at hp;have hz:j-l.length=0:=by have:=(List.getElem?_eq_some_iff.1 hp).1;simp at this;omega
   rw[hz]at hp;simp at hp;exact .inr ⟨by omega,hp.symm⟩
 refine ⟨h.xs,fun j p hp=>?_,fun j p hp=>?_,fun j p hp=>?_⟩
 ·rcases aA hp with hp | ⟨rfl,rfl⟩
  ·exact h.dir j p hp
  ·exact hd
 ·rcases aA hp with hp | ⟨rfl,rfl⟩
  ·exact h.ref j p hp
  ·exact hx
 ·rcases aA hp with hp | ⟨rfl,rfl⟩
  ·exact h.len j p hp
  ·exact hn
theorem PlR.grownD {l0:List Pq} (h:PlR wr gD bs xsv lx l) (hd:DsR wr gD dsv l0) (hg:wr.grownBy w' dsv.ownBlock):PlR w' gD bs xsv lx l:=by
 have k:=Pj hd;exact ⟨World.ownsRow.kept h.xs hg (T9 h.xs hd (by decide)),fun j q hq=>by obtain⟨N,hN⟩:=h.dir j q hq;exact ⟨N,hN.grown hg k (by decide) (by decide)⟩,fun j q hq=>((h.ref j q hq).grown hg k (by decide) (by decide)).more hg.size,h.len⟩
theorem PlR.grownX {q:Pq} {u:Value} (h:PlR wr gD bs xsv lx l) (hg:wr.grownBy w' xsv.ownBlock) (hx:w'.ownsRow (gD+2) 37 2 u (lx.length+1) (xsC 0 lx++q.x lx.length)):PlR w' gD bs u (lx++[q]) l:=by
 have k:=Pj h.xs;refine ⟨?_,fun j q hq=>by obtain⟨N,hN⟩:=h.dir j q hq;exact ⟨N,hN.grown hg k (by decide) (by decide)⟩,fun j q hq=>((h.ref j q hq).grown hg k (by decide) (by decide)).more hg.size,h.len⟩;rw[B6l,Nat.zero_add,List.length_append,List.length_singleton];exact hx
theorem DsR.up (h:DsR wr gD dsv l) (hb:Below wr.heap.size wr w'):DsR w' gD dsv l:=Aw h hb (Nat.le_refl _)
theorem DsR.put {g o:Nat} {vs:List Value} (h:DsR wr gD dsv l) (hg:g<gD+2):DsR (C4 wr ⟨g,o,none⟩ vs) gD dsv l:=Nz h hg vs
theorem DsR.grownX {l0:List Pq} (h:DsR wr gD dsv l0) (hp:PlR wr gD bs xsv lx l) (hg:wr.grownBy w' xsv.ownBlock):DsR w' gD dsv l0:=World.ownsRow.kept h hg (T9 h hp.xs (by decide))
theorem DsR.snoc {q:Pq} {u:Value} (h:wr.ownsRow (gD+2) 34 4 u (l.length+1) (dsC 0 l++q.d l.length)):DsR wr gD u (l++[q]):=by
 unfold DsR;rw[B1y,Nat.zero_add,List.length_append,List.length_singleton];exact h
theorem DsR.at_ {A:Option Addr} {n c j:Nat} {q:Pq} (h:DsR wr gD (.slice A n c) l) (hq:l[j]?=some q):∃g,A=some ⟨g,0,none⟩∧g<wr.heap.size∧C8 wr ⟨g,j*4,none⟩ 4=some (q.d j):=by
 have hj:=(List.getElem?_eq_some_iff.1 hq).1;rcases Wc h with ⟨_,h0⟩ | ⟨g,tl,c1,e1,k1,l1⟩
 ·omega
 ·injection e1 with e1;refine ⟨g,e1,l1,?_⟩;rw[k1.row (o:=j*4) (n:=4) (by rw[List.length_append,A1y];omega),List.drop_append_of_le_length (by rw[A1y];omega),List.take_append_of_le_length (by rw[List.length_drop,A1y];omega),D2q hq,Nat.zero_add]
theorem PlR.at_ {A:Option Addr} {n c j:Nat} {q:Pq} (h:PlR wr gD bs (.slice A n c) lx l) (hq:lx[j]?=some q):∃g,A=some ⟨g,0,none⟩∧g<wr.heap.size∧C8 wr ⟨g,j*2,none⟩ 2=some (q.x j):=by
 have hj:=(List.getElem?_eq_some_iff.1 hq).1;rcases Wc h.xs with ⟨_,h0⟩ | ⟨g,tl,c1,e1,k1,l1⟩
 ·omega
 ·injection e1 with e1;refine ⟨g,e1,l1,?_⟩;rw[k1.row (o:=j*2) (n:=2) (by rw[List.length_append,A1r];omega),List.drop_append_of_le_length (by rw[A1r];omega),List.take_append_of_le_length (by rw[List.length_drop,A1r];omega),C9d hq,Nat.zero_add]
theorem Qt {T:TypeId} {g:Nat} {row:Option Nat} {T':TypeId} {cs:List Value} (hk:Bk wr g T' cs) (h:Ry wr row T) (hT:T'≠T):some g≠row:=h.ne (B8k hk) hT
theorem D2m {row:Option Nat} {v:Value} {T T':TypeId} {base sz n:Nat} {xs:List Value} (a:wr.ownsRow base T' sz v n xs) (hk:Ry wr row T) (hT:T'≠T):v.ownBlock=none∨v.ownBlock≠row:=by
 cases hv:v.ownBlock with
 | none=>exact .inl rfl
 | some g=>exact .inr (hk.ne (by have:=Pj a;rwa [hv]at this) hT)
theorem BatchIs.grown {ov gv:Value} {row:Option Nat} {T:TypeId} (h:BatchIs wr ov gv bs) (hg:wr.grownBy w' row) (hk:Ry wr row T) (h1:39≠T) (h2:41≠T) (h3:63≠T) (h4:4≠T):BatchIs w' ov gv bs:=by
 obtain⟨os,gs,a,b,c,d⟩:=h;refine ⟨os,gs,World.ownsRow.kept a hg (D2m a hk h1),World.ownsRow.kept b hg (D2m b hk h2),c.mono fun v x y=>?_,d.mono fun v x y=>?_⟩
 ·rcases y with y | ⟨g',tl,c',y1,y2,y3⟩
  ·exact .inl y
  ·exact .inr ⟨g',tl,c',y1,⟨y2.1,y2.2.grown hg (Qt y2.2 hk h3)⟩,Nat.lt_of_lt_of_le y3 hg.size⟩
 ·rcases y with y | ⟨g',tl,c',y1,y2,y3⟩
  ·exact .inl y
  ·exact .inr ⟨g',tl,c',y1,y2.grown hg (Qt y2 hk h4),Nat.lt_of_lt_of_le y3 hg.size⟩
theorem DaI.grown {ov gv dv ev:Value} {i N:Nat} {L:List En} {row:Option Nat} {T:TypeId} {B:Nat} (h:DaI w wr gD (gD+1) ov gv bs i dv ev L N) (hg:wr.grownBy w' row) (hk:Ry wr row T) (hr:∀g,row=some g→gD+2≤g) (hB:Below B wr w') (hlo:w.heap.size≤B)
 (h1:39≠T) (h2:41≠T) (h3:63≠T) (h4:4≠T) (h5:23≠T) (h6:147≠T) (h7:44≠T):DaI w w' gD (gD+1) ov gv bs i dv ev L N:=by
 obtain⟨ap,b,e1,e2⟩:=h.kd;obtain⟨A,c,e3,e4⟩:=h.kx;exact ⟨h.eq,⟨ap,b,e1,e2.grown hg fun e=>by have:=hr _ e.symm;omega⟩,⟨A,c,e3,e4.grown hg fun e=>by have:=hr _ e.symm;omega⟩,h.dir.grown hg hk h5 h6,(h.es.grown hg hk h5 h7).more hg.size,h.bat.grown hg hk h1 h2 h3 h4,h.hN,h.len,h.lks,h.below.trans (hB.mono hlo)⟩
end
section
variable {P : Program} {l : List Oper} {Q : Exit → Act → World → Prop} {S : World → Prop} {w : World}
theorem C5v {done:List Nat} (i j m:Nat) (F:Value→Value→Value→Act) {ui uj um:Value} (E:World→Prop) (I J M:Value→World→Prop) {o p q:Oper}
 (h0:Cu l done [j,i]=true) (h1:Cu l (done++[i]) [j]=true) (h2:Cu l (done++[i]++[j]) [m]=true) (h3:Cu l (done++[j]) [m,i]=true) (h4:Cu l (done++[j]++[i]) [m]=true) (h5:Cu l (done++[j]++[m]) [i]=true)
 (e1:(L6 l.length (done++[i]++[j]++[m])==L6 l.length (done++[i,j,m]))=true) (e2:(L6 l.length (done++[j]++[i]++[m])==L6 l.length (done++[i,j,m]))=true) (e3:(L6 l.length (done++[j]++[m]++[i])==L6 l.length (done++[i,j,m]))=true)
 (hi:l[i]?=some o) (hj:l[j]?=some p) (hm:l[m]?=some q)
 (gi:∀x y z,Region.wanted o (yielded l.toArray (F x y z).tmps)=true) (gj:∀x y z,Region.wanted p (yielded l.toArray (F x y z).tmps)=true) (gm:∀x y z,Region.wanted q (yielded l.toArray (F x y z).tmps)=true)
 (sE:∀W W',E W→Below W.heap.size W W'→E W') (sI:∀x W W',I x W→Below W.heap.size W W'→I x W') (sJ:∀y W W',J y W→Below W.heap.size W W'→J y W') (sM:∀y W W',M y W→Below W.heap.size W W'→M y W') (hS:S w) (hE:E w)
 (hI:∀y z W,S W→∀Q':Exit→Act→World→Prop,(∀x W',S W'→I x W'→Below W.heap.size W W'→Q' .normal (F x y z) W')→wpList P #[C7 o] Q' [C7 o] (F ui y z) W)
 (hJ:∀x W,S W→∀Q':Exit→Act→World→Prop,(∀y W',S W'→J y W'→Below W.heap.size W W'→Q' .normal (F x y um) W')→wpList P #[C7 p] Q' [C7 p] (F x uj um) W)
 (hM:∀x y W,S W→E W→J y W→∀Q':Exit→Act→World→Prop,(∀z W',S W'→M z W'→(∀x',I x' W→I x' W')→Q' .normal (F x y z) W')→wpList P #[C7 q] Q' [C7 q] (F x y um) W)
 (hR:∀x y z W,S W→I x W→M z W→U0 P l Q S (done++[i,j,m]) (F x y z) W):U0 P l Q S done (F ui uj um) w:=by
 have aA:∀d:List Nat,d.length=(done++[i,j,m]).length→(L6 l.length d==L6 l.length (done++[i,j,m]))=true→∀x y z W,S W→I x W→M z W→U0 P l Q S d (F x y z) W:=by intro d hd he x y z W hS hI hM;exact C7b (by simp only[Bool.and_eq_true];exact ⟨he,by simpa using hd⟩) (hR x y z W hS hI hM)
 refine B5p j i h0 hj hi (gj _ _ _) (gi _ _ _) (fun Q' hQ'=>?_) (fun Q' hQ'=>?_)
 ·refine hJ _ _ hS _ fun y W1 S1 J1 b1=>hQ' _ _ S1 ?_;have E1:=sE _ _ hE b1;refine B5p m i h3 hm hi (gm _ _ _) (gi _ _ _) (fun Q' hQ'=>?_) (fun Q' hQ'=>?_)
  ·refine hM _ _ _ S1 E1 J1 _ fun z W2 S2 M2 k2=>hQ' _ _ S2 ?_;refine Jq i h5 hi (gi _ _ _) (fun Q' hQ'=>hI _ _ _ S2 _ fun x W3 S3 I3 b3=>hQ' _ _ S3 ?_);exact aA _ (by simp) e3 _ _ _ _ S3 I3 (sM _ _ _ M2 b3)
  ·refine hI _ _ _ S1 _ fun x W2 S2 I2 b2=>hQ' _ _ S2 ?_;refine Jq m h4 hm (gm _ _ _) (fun Q' hQ'=>hM _ _ _ S2 (sE _ _ E1 b2) (sJ _ _ _ J1 b2) _ fun z W3 S3 M3 k3=>hQ' _ _ S3 ?_);exact aA _ (by simp) e2 _ _ _ _ S3 (k3 _ I2) M3
 ·refine hI _ _ _ hS _ fun x W1 S1 I1 b1=>hQ' _ _ S1 ?_;have E1:=sE _ _ hE b1;refine Jq j h1 hj (gj _ _ _) (fun Q' hQ'=>hJ _ _ S1 _ fun y W2 S2 J2 b2=>hQ' _ _ S2 ?_);refine Jq m h2 hm (gm _ _ _) (fun Q' hQ'=>hM _ _ _ S2 (sE _ _ E1 b2) J2 _ fun z W3 S3 M3 k3=>hQ' _ _ S3 ?_);exact aA _ (by simp) e1 _ _ _ _ S3 (k3 _ (sI _ _ _ I1 b2)) M3
def B3u (di dj dm:Tmp) (l:List Value) (ds:List Deferred) (x y z:Value):Act:=⟨(((l.set di x).set dj y).set dm z).toArray,ds⟩
theorem C6w {di dj dm:Tmp} {l:List Value} {ds:List Deferred}:(⟨l.toArray,ds⟩:Act)=B3u di dj dm l ds (l.getD di undef) (l.getD dj undef) (l.getD dm undef):=by
 have h:∀d:Nat,l.set d (l.getD d undef)=l:=fun d=>by
  apply List.ext_getElem?;intro n;rw[List.getElem?_set];split
  ·rename_i e
   subst e;split
   ·rename_i h;simp[h]
   ·rename_i h;rw[List.getElem?_eq_none (by omega)]
  ·rfl
 unfold B3u;rw[h,h,h]
end
end
end Go.Proofs.YtlegpkdighoflaaGreat
