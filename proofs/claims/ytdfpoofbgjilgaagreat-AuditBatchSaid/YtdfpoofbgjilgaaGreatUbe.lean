/- A part of the proof of AuditBatch. -/
import Derived.Laws.IdiomCopy
import Derived.Test.YtdfpoofbgjilgaaGreatUbd
set_option linter.unusedVariables false
set_option linter.unusedSimpArgs false
set_option maxRecDepth 100000
set_option maxHeartbeats 40000000
namespace Go.Proofs.YtdfpoofbgjilgaaGreat
open Go Go.RowKit Sh
section
def A2w (b:Bool) (bad:Int):Int:=if b&&(bad==0) then 13 else bad
def Ji (w:World) (g:Nat) (l:List UInt8) (bad:Int):Prop:=∃v,Bk w g 247 [v,.int .i64 bad]∧By w 0 g v l
theorem Ji.lt {w:World} {g:Nat} {l:List UInt8} {bad:Int} (h:Ji w g l bad):g<w.heap.size:=let ⟨_,h1,_⟩:=h;h1.lt
theorem By.grown {w w':World} {lo g:Nat} {v:Value} {l:List UInt8} (h:By w lo g v l) (hg:w.grownBy w' (some g)) (hl:g≤w.heap.size):By w' lo g v l:=
 h.below ((Below.refl _ _).grown hg hl (fun k hk=>by injection hk with hk;omega))
theorem Ji.below {w w':World} {g B:Nat} {l:List UInt8} {bad:Int} (h:Ji w g l bad) (hb:Below B w w') (hB:g<B):Ji w' g l bad:=
 let ⟨v,h1,h2⟩:=h;⟨v,h1.below hb hB,h2.below (hb.mono (by omega))⟩
theorem E9 {w w':World} (hb:Below w.heap.size w w') (g:Nat):w.grownBy w' (some g):=⟨hb.os,hb.tape,hb.output,hb.size,fun k hk _=>hb.block k hk⟩
theorem T6 (w:World) (g o:Nat) (u:Value):w.grownBy (w.setCell ⟨g,o,none⟩ u) (some g):=⟨by simp[World.setCell],by simp[World.setCell],by simp[World.setCell],by simp[World.setCell],fun k hk hne=>Below.heap_setCell w _ u k (fun e=>hne (by rw[e]))⟩
theorem T5 {w W:World} {g:Nat} (h:w.grownBy W (some g)) {b:Nat} (hb:w.heap.size≤b) (o:Nat) (vs:List Value):w.grownBy (C5 W ⟨b,o,none⟩ vs) (some g):=by
 have h2:=C1 (a:=⟨b,o,none⟩) (Below.refl 0 W) (Nat.zero_le _) vs;exact ⟨h2.os.trans h.os,h2.tape.trans h.tape,h2.output.trans h.output,Nat.le_trans h.size h2.size,fun k hk hne=>(V7 _ _ _ _ _ (show k≠b by omega)).trans (h.block k hk hne)⟩
theorem Ji.putFar {w:World} {g:Nat} {l:List UInt8} {bad:Int} (h:Ji w g l bad) {a:Addr} (ha:g<a.block) (vs:List Value):Ji (C5 w a vs) g l bad:=
 let ⟨v,h1,h2⟩:=h;⟨v,h1.putFar (by omega) vs,h2.below (C1 (Below.refl _ _) (by omega) vs)⟩
section
variable (g : Nat) (l : List UInt8) (w : World)
theorem B1l (bad:Int) (hb:bad≠0) (n:Nat) (h:Ji w g l bad) :
 Calls Tryz.prog 191 #[.pointer (some ⟨g,0,none⟩),.int .i64 (n:Int)] w fun e w'=>e=.returned (.slice none 0 0)∧w'=w:=by
 obtain⟨v,K,hy⟩:=h;have c1:w.cell? ⟨g,1,none⟩=some (.int .i64 bad):=K.at_ rfl;have aA:(bad==0)=false:=beq_eq_false_iff_ne.2 hb;go_enter Tryz.func191,Tryz.ntmps191;go_wp2_with fail;go_ret;exact ⟨rfl,rfl⟩
theorem Zu (n:Nat) (hn:l.length<n) (hn2:n≤1099511627776) (h:Ji w g l 0) :
 Calls Tryz.prog 191 #[.pointer (some ⟨g,0,none⟩),.int .i64 (n:Int)] w fun e w'=>e=.returned (.slice none 0 0)∧Ji w' g l 10∧w.grownBy w' (some g):=by
 obtain⟨v,K,hy⟩:=h;obtain⟨A,c,rfl,aA,aB,aC⟩:=hy.open_;have c0:w.cell? ⟨g,0,none⟩=some (.slice A l.length c):=K.at_ rfl;have c1:w.cell? ⟨g,1,none⟩=some (.int .i64 0):=K.at_ rfl;have f1:=K.frozen 1;have aD:decide ((l.length:Int)<(n:Int))=true:=decide_eq_true (by omega);have K2:Bk (w.setCell ⟨g,1,none⟩ (.int .i64 10)) g 247 [.slice A l.length c,.int .i64 10]:=K.set_ 1 _;have c2:(w.setCell ⟨g,1,none⟩ (.int .i64 10)).cell? ⟨g,1,none⟩=some (.int .i64 10):=K2.at_ rfl;have G:=T6 w g 1 (.int .i64 10);have H:Ji (w.setCell ⟨g,1,none⟩ (.int .i64 10)) g l 10:=⟨_,K2,hy.grown G (Nat.le_of_lt K.lt)⟩;go_enter Tryz.func191,Tryz.ntmps191;go_wp2_with fail;go_ret;exact ⟨rfl,H,G⟩
theorem B8u (n:Nat) (hn:n≤l.length) (h:Ji w g l 0) :
 Calls Tryz.prog 191 #[.pointer (some ⟨g,0,none⟩),.int .i64 (n:Int)] w fun e w'=>∃v,e=.returned v∧By w' 0 g v (l.take n)∧Ji w' g (l.drop n) 0∧w.grownBy w' (some g):=by
 obtain⟨v,K,hy⟩:=h;obtain⟨A,c,rfl,aC,aD,aE⟩:=hy.open_;have c0:w.cell? ⟨g,0,none⟩=some (.slice A l.length c):=K.at_ rfl;have c1:w.cell? ⟨g,1,none⟩=some (.int .i64 0):=K.at_ rfl;have f0:=K.frozen 0;have aF:decide ((l.length:Int)<(n:Int))=false:=decide_eq_false (by omega);have aB:¬ (l.length:Int)<(n:Int):=by omega
 have aG:0≤(n:Int):=by omega
 have aH:(n:Int)≤(l.length:Int):=by omega
 have aI:(n:Int)≤(c:Int):=by omega
 have hd:=hy.drops (k:=n) hn;have ht:=hy.takes (k:=n) hn;have aJ:(l.drop n).length=l.length-n:=by simp
 have aA:∀u,By w 0 g u (l.drop n)→By (w.setCell ⟨g,0,none⟩ u) 0 g (.slice A n c) (l.take n)∧Ji (w.setCell ⟨g,0,none⟩ u) g (l.drop n) 0∧w.grownBy (w.setCell ⟨g,0,none⟩ u) (some g):=fun u hu=>⟨ht.grown (T6 _ _ _ _) (Nat.le_of_lt K.lt),⟨u,K.set_ 0 u,hu.grown (T6 _ _ _ _) (Nat.le_of_lt K.lt)⟩,T6 _ _ _ _⟩
 by_cases hcn:c=n
 ·rw[if_pos hcn]at hd;subst hcn;simp only[Nat.sub_self,show l.length-c=0 by omega]at hd;go_enter Tryz.func191,Tryz.ntmps191;go_wp2_with fail;go_ret;exact ⟨_,rfl,aA _ hd⟩
 ·rw[if_neg hcn]at hd;go_enter Tryz.func191,Tryz.ntmps191;go_wp2_with fail;go_ret;exact ⟨_,rfl,aA _ hd⟩
theorem Ah (bad:Int) (b:Bool) (h:Ji w g l bad) :
 Calls Tryz.prog 193 #[.pointer (some ⟨g,0,none⟩),.bool b] w fun e w'=>e=.returned (.tuple #[])∧Ji w' g l (A2w b bad)∧w.grownBy w' (some g):=by
 obtain⟨v,K,hy⟩:=h;have c1:w.cell? ⟨g,1,none⟩=some (.int .i64 bad):=K.at_ rfl;have f1:=K.frozen 1;cases b with
 | false=>
  go_enter Tryz.func193,Tryz.ntmps193;go_wp2_with fail;refine bodyPost_end (results_none rfl _ _ _) rfl ?_;exact ⟨rfl,⟨v,K,hy⟩,World.grownBy.refl w _⟩
 | true=>
  by_cases hb:bad=0
  ·subst hb;go_enter Tryz.func193,Tryz.ntmps193;go_wp2_with fail;refine bodyPost_end (results_none rfl _ _ _) rfl ?_;exact ⟨rfl,⟨v,K.set_ 1 _,hy.grown (T6 _ _ _ _) (Nat.le_of_lt K.lt)⟩,T6 _ _ _ _⟩
  ·have aA:(bad==0)=false:=beq_eq_false_iff_ne.2 hb;go_enter Tryz.func193,Tryz.ntmps193;go_wp2_with fail;refine bodyPost_end (results_none rfl _ _ _) rfl ?_;have e:A2w true bad=bad:=by simp[A2w,hb]
   rw[e];exact ⟨rfl,⟨v,K,hy⟩,World.grownBy.refl w _⟩
theorem A4z (bad bad':Int) (hbad:(bad≠0∧bad'=bad)∨(bad=0∧l.length<32∧bad'=10)) (h:Ji w g l bad) :
 Calls Tryz.prog 192 #[.pointer (some ⟨g,0,none⟩)] w fun e w'=>e=.returned (A8 (z8 32))∧Ji w' g l bad'∧w.grownBy w' (some g):=by
 obtain⟨W0,aA⟩:∃x,x=(w.alloc (Obj.cells (c8 (z8 32)).toArray 35)).alloc (Obj.cells (c8 (z8 32)).toArray 35):=⟨_,rfl⟩;have B0:Below w.heap.size w W0:=by rw[aA];exact ((Below.refl _ _).alloc (Nat.le_refl _) _).alloc (by simp) _
 have R0:Bk W0 w.heap.size 35 (c8 (z8 32)):=by rw[aA];exact (Bk.new w _ _).alloc _
 have H0:Bk W0 (w.heap.size+1) 35 (c8 (z8 32)):=by rw[aA];simpa using Bk.new (w.alloc (Obj.cells (c8 (z8 32)).toArray 35)) 35 (c8 (z8 32))
 have zg:=h.lt;have hr:=h.below B0 zg;have aB:Calls Tryz.prog 191 #[.pointer (some ⟨g,0,none⟩),.int .i64 ((32:Nat):Int)] W0.drew fun e w'=>e=.returned (.slice none 0 0)∧Ji w' g l bad'∧W0.drew.grownBy w' (some g):=by
  rcases hbad with ⟨hb,rfl⟩ | ⟨rfl,hl,rfl⟩
  ·exact (B1l g l W0.drew bad' hb 32 hr).mono fun e w' ⟨h1,h2⟩=>⟨h1,by rw[h2];exact hr,by rw[h2];exact World.grownBy.refl _ _⟩
  ·exact Zu g l W0.drew 32 hl (by omega) hr
 clear hbad;go_enter Tryz.func192,Tryz.ntmps192;go_wp2_with fail;rw[←aA];clear aA;have aD:Below w.heap.size w W0.drew:=B0.drew;have z0:W0.drew.heap.size=W0.heap.size:=rfl;refine D9 (fun W=>True) (by kernel_rfl) ?_;refine C4 (A:=?A1) [0,1] (by kernel_rfl) (by kernel_rfl) rfl (by kernel_rfl) (by kernel_rfl) trivial (h:=fun W hW=>?h1) (hr:=?r1);case h1=>
  simp only[pick,List.getElem?_cons_zero,List.getElem?_cons_succ];repeat (go_big_quiet_step (fail))
  refine wpQuiet_nil ?_;rfl
 case r1=>
  refine C2 2 (by kernel_rfl) (by rfl) (by rfl) (fun Q' hQ'=>?_);dsimp only[D8];go_wp2_with fail;refine aB.mono ?_;rintro e w1 ⟨rfl,aE,aC⟩;have H1:=H0.drew.grown (w':=w1) (row:=some g) aC (fun e=>by injection e with e;have:=H0.lt;omega);have R1:=R0.drew.grown (w':=w1) (row:=some g) aC (fun e=>by injection e with e;omega);go_wp2_with fail;refine hQ' _ _ trivial ?_;clear hQ';refine C2 3 (by kernel_rfl) (by rfl) (by rfl) (fun Q' hQ'=>?_);dsimp only[D8];have aF:∀ty,(Builtin.copy_ #[29,29] ty #[.slice (some ⟨w.heap.size+1,0,none⟩) 32 32,.slice none 0 0]).run Tryz.prog w1=.ok (goInt 0) w1:=fun ty=>run_copy_none w1 _ _ ty 5 _ _ _ _ _ _ Tryz.underlying29 (by kernel_rfl) (by decide);go_wp2_with fail;refine hQ' _ _ trivial ?_;clear hQ' aF;refine E5 (by kernel_rfl) ?_;have aG:C6 w1 ⟨w.heap.size+1,0,none⟩ 32=some (c8 (z8 32)):=by have:=H1.rows;rwa [C3,Q2]at this
  have aH:E4 w1 ⟨w.heap.size,0,none⟩ 32=true:=R1.can (by simp);go_wp2_with fail;refine bodyPost_ret (C8 rfl _ _ _ _ _ _ rfl (R1.puts (vs:=c8 (z8 32)) (by simp)) Tryz.underlying35 rfl (by simp[J5])) rfl ⟨rfl,aE.putFar zg _,?_⟩;exact T5 ((E9 aD g).trans aC) (Nat.le_refl _) _ _
theorem D3m (hl:32≤l.length) (h:Ji w g l 0) :
 Calls Tryz.prog 192 #[.pointer (some ⟨g,0,none⟩)] w fun e w'=>e=.returned (A8 (l.take 32))∧Ji w' g (l.drop 32) 0∧w.grownBy w' (some g):=by
 obtain⟨W0,aB⟩:∃x,x=(w.alloc (Obj.cells (c8 (z8 32)).toArray 35)).alloc (Obj.cells (c8 (z8 32)).toArray 35):=⟨_,rfl⟩;have B0:Below w.heap.size w W0:=by rw[aB];exact ((Below.refl _ _).alloc (Nat.le_refl _) _).alloc (by simp) _
 have R0:Bk W0 w.heap.size 35 (c8 (z8 32)):=by rw[aB];exact (Bk.new w _ _).alloc _
 have H0:Bk W0 (w.heap.size+1) 35 (c8 (z8 32)):=by rw[aB];simpa using Bk.new (w.alloc (Obj.cells (c8 (z8 32)).toArray 35)) 35 (c8 (z8 32))
 have zg:=h.lt;have hr:=h.below B0 zg;have aC:=B8u g l W0.drew 32 hl hr;have aA:(l.take 32).length=32:=by simp;omega
 generalize hx:l.take 32=x at *;clear hx;generalize l.drop 32=rest at *;go_enter Tryz.func192,Tryz.ntmps192;go_wp2_with fail;rw[←aB];clear aB;have aF:Below w.heap.size w W0.drew:=B0.drew;have z0:W0.drew.heap.size=W0.heap.size:=rfl;refine D9 (fun W=>True) (by kernel_rfl) ?_;refine C4 (A:=?A1) [0,1] (by kernel_rfl) (by kernel_rfl) rfl (by kernel_rfl) (by kernel_rfl) trivial (h:=fun W hW=>?h1) (hr:=?r1);case h1=>
  simp only[pick,List.getElem?_cons_zero,List.getElem?_cons_succ];repeat (go_big_quiet_step (fail))
  refine wpQuiet_nil ?_;rfl
 case r1=>
  refine C2 2 (by kernel_rfl) (by rfl) (by rfl) (fun Q' hQ'=>?_);dsimp only[D8];go_wp2_with fail;refine aC.mono ?_;rintro e w1 ⟨u,rfl,hu,aG,aE⟩;have H1:=H0.drew.grown (w':=w1) (row:=some g) aE (fun e=>by injection e with e;have:=H0.lt;omega);have R1:=R0.drew.grown (w':=w1) (row:=some g) aE (fun e=>by injection e with e;omega);go_wp2_with fail;refine hQ' _ _ trivial ?_;clear hQ';refine C2 3 (by kernel_rfl) (by rfl) (by rfl) (fun Q' hQ'=>?_);dsimp only[D8];obtain⟨gu,ou,cu,rfl,aL,aH,_,aM,aD⟩:=hu.row (by omega);rw[aA];have aI:∀ty,(Builtin.copy_ #[29,29] ty #[.slice (some ⟨w.heap.size+1,0,none⟩) 32 32,.slice (some ⟨gu,ou,none⟩) 32 cu]).run Tryz.prog w1=.ok (goInt 32) (C5 w1 ⟨w.heap.size+1,0,none⟩ (c8 x)):=fun ty=>by
   have:=run_copy_cells (P:=Tryz.prog) w1 29 29 ty 5 (w.heap.size+1) 0 32 32 ⟨gu,ou,none⟩ 32 cu (c8 x) Tryz.underlying29 (by kernel_rfl) (by simp[aA]) (fun j v hj=>(Kw aD).2 j v hj) (fun j hj=>by rw[Nat.zero_add,H1.cell];simp[aA]at hj;simp[hj]) (fun j hj=>H1.frozen _) (by intro u hu;obtain⟨y,_,rfl⟩:=List.mem_map.1 hu;rfl);rw[C3,aA]at this;exact this
  go_wp2_with fail;refine hQ' _ _ trivial ?_;clear hQ' aI;refine E5 (by kernel_rfl) ?_;have H2:=H1.puts (vs:=c8 x) (by simp[aA]);have R2:=R1.putFar (p:=⟨w.heap.size+1,0,none⟩) (by simp) (c8 x);have aJ:C6 (C5 w1 ⟨w.heap.size+1,0,none⟩ (c8 x)) ⟨w.heap.size+1,0,none⟩ 32=some (c8 x):=by have:=H2.rows;rwa [C3,aA]at this
  have aK:E4 (C5 w1 ⟨w.heap.size+1,0,none⟩ (c8 x)) ⟨w.heap.size,0,none⟩ 32=true:=R2.can (by simp);go_wp2_with fail;refine bodyPost_ret (C8 rfl _ _ _ _ _ _ rfl (R2.puts (vs:=c8 x) (by simp[aA])) Tryz.underlying35 rfl (by simp[J5,aA])) rfl ⟨rfl,(aG.putFar (show g<w.heap.size+1 by omega) _).putFar zg _,?_⟩;exact T5 (T5 ((E9 aF g).trans aE) (by omega) _ _) (Nat.le_refl _) _ _
end
end
abbrev RS := List UInt8 × Int
def Lw (n:Nat) (s:RS):List UInt8:=if s.2=0∧n≤s.1.length then s.1.take n else []
def Z9 (n:Nat) (s:RS):RS:=if s.2=0 then (if n≤s.1.length then (s.1.drop n,0) else (s.1,10)) else s
def WRd (w:World) (g:Nat) (s:RS):Prop:=∃v,Bk w g 175 [v,.int .i64 s.2]∧By w 0 g v s.1
theorem WRd.lt {w:World} {g:Nat} {s:RS} (h:WRd w g s):g<w.heap.size:=let ⟨_,h1,_⟩:=h;h1.lt
theorem WRd.below {w w':World} {g B:Nat} {s:RS} (h:WRd w g s) (hb:Below B w w') (hB:g<B):WRd w' g s:=
 let ⟨v,h1,h2⟩:=h;⟨v,h1.below hb hB,h2.below (hb.mono (by omega))⟩
theorem WRd.up {w w':World} {g:Nat} {s:RS} (h:WRd w g s) (hb:Below w.heap.size w w'):WRd w' g s:=h.below hb h.lt
theorem WRd.putFar {w:World} {g:Nat} {s:RS} (h:WRd w g s) {a:Addr} (ha:g<a.block) (vs:List Value):WRd (C5 w a vs) g s:=
 let ⟨v,h1,h2⟩:=h;⟨v,h1.putFar (by omega) vs,h2.below (C1 (Below.refl _ _) (by omega) vs)⟩
def E8k (n:Nat) (l:List UInt8) (v:Value):Prop:=0<n→l=[]→v=.slice none 0 0
structure TkR (w w' : World) (g : Nat) (s : RS) : Prop where
 rd:WRd w' g s
 gr:w.grownBy w' (some g)
theorem TkR.refl {w:World} {g:Nat} {s:RS} (h:WRd w g s):TkR w w g s:=⟨h,World.grownBy.refl w _⟩
theorem Pw (g:Nat) (s:RS) (n:Nat) (hn:n≤1099511627776) (w:World) (h:WRd w g s) :
 Calls Tryz.prog 84 #[.pointer (some ⟨g,0,none⟩),.int .i64 (n:Int)] w fun e w'=>∃v,e=.returned v∧By w' 0 g v (Lw n s)∧TkR w w' g (Z9 n s)∧E8k n (Lw n s) v:=by
 obtain⟨l,aA⟩:=s;obtain⟨v,K,hy⟩:=h;simp only at K hy;have zg:=Nat.le_of_lt K.lt;have c1:w.cell? ⟨g,1,none⟩=some (.int .i64 aA):=K.at_ rfl;have aB:∀w':World,By w' 0 g (.slice none 0 0) []:=fun w'=>⟨none,0,rfl,Nat.le_refl _,by decide,.inl rfl⟩;by_cases hb:aA=0
 ·subst hb;obtain⟨A,c,rfl,aG,aH,aI⟩:=hy.open_;have c0:w.cell? ⟨g,0,none⟩=some (.slice A l.length c):=K.at_ rfl;by_cases hl:l.length<n
  ·have aD:decide ((l.length:Int)<(n:Int))=true:=decide_eq_true (by omega);have f1:=K.frozen 1;have e1:Lw n (l,0)=[]:=by unfold Lw;rw[if_neg (by simp;omega)]
   have e2:Z9 n (l,0)=(l,10):=by unfold Z9;rw[if_pos rfl,if_neg (by simp;omega)]
   rw[e1,e2];go_enter Tryz.func84,Tryz.ntmps84;go_wp2_with fail;go_ret;exact ⟨_,rfl,aB _,⟨⟨_,K.set_ 1 _,hy.grown (T6 w g 1 _) zg⟩,T6 w g 1 _⟩,fun _ _=>rfl⟩
  ·have aD:decide ((l.length:Int)<(n:Int))=false:=decide_eq_false (by omega);have f0:=K.frozen 0;have e1:Lw n (l,0)=l.take n:=by unfold Lw;rw[if_pos ⟨rfl,by simp;omega⟩]
   have e2:Z9 n (l,0)=(l.drop n,0):=by unfold Z9;rw[if_pos rfl,if_pos (by simp;omega)]
   rw[e1,e2];have aJ:0≤(n:Int):=by omega
   have aK:(n:Int)≤(l.length:Int):=by omega
   have aL:(n:Int)≤(c:Int):=by omega
   have aE:¬ (l.length:Int)<(n:Int):=by omega
   have hd:=hy.drops (k:=n) (by omega);have ht:=hy.takes (k:=n) (by omega);have aM:(l.drop n).length=l.length-n:=by simp
   have q7:(l.take n).length=n:=by rw[List.length_take];omega
   have aF:By w 0 g (.slice A n n) (l.take n):=by obtain⟨A',c',q1,q2,q3,q4⟩:=ht;injection q1 with q1 q5 q6;subst q1;exact ⟨A,n,by rw[List.length_map,q7],by rw[List.length_map];omega,by omega,q4⟩
   have aC:∀u,By w 0 g u (l.drop n)→By (w.setCell ⟨g,0,none⟩ u) 0 g (.slice A n n) (l.take n)∧TkR w (w.setCell ⟨g,0,none⟩ u) g (l.drop n,0)∧E8k n (l.take n) (.slice A n n):=fun u hu=>⟨aF.grown (T6 w g 0 u) zg,⟨⟨u,K.set_ 0 u,hu.grown (T6 w g 0 u) zg⟩,T6 w g 0 u⟩,fun h0 h1=>(by rw[h1]at q7;simp at q7;omega)⟩
   by_cases hcn:c=n
   ·rw[if_pos hcn]at hd;subst hcn;simp only[Nat.sub_self,show l.length-c=0 by omega]at hd;go_enter Tryz.func84,Tryz.ntmps84;go_wp2_with fail;go_ret;exact ⟨_,rfl,aC _ hd⟩
   ·rw[if_neg hcn]at hd;go_enter Tryz.func84,Tryz.ntmps84;go_wp2_with fail;go_ret;exact ⟨_,rfl,aC _ hd⟩
 ·have aN:(aA==0)=false:=beq_eq_false_iff_ne.2 hb;have e1:Lw n (l,aA)=[]:=by unfold Lw;rw[if_neg (by simp[hb])]
  have e2:Z9 n (l,aA)=(l,aA):=by unfold Z9;rw[if_neg (by simp[hb])]
  rw[e1,e2];go_enter Tryz.func84,Tryz.ntmps84;go_wp2_with fail;go_ret;exact ⟨_,rfl,aB _,TkR.refl ⟨v,K,hy⟩,fun _ _=>rfl⟩
def w8L (l:List UInt8):UInt64:=l.foldl (fun v x=>(v <<< 8) ||| x.toUInt64) 0
def w8N (s:RS):Nat:=(w8L (Lw 8 s)).toNat
theorem C9y {l:List UInt8} {i:Nat} {x:UInt8} (hx:l[i]?=some x):w8L (l.take (i+1))=(w8L (l.take i) <<< 8) ||| x.toUInt64:=by
 unfold w8L;rw[List.take_add_one,hx,List.foldl_append];rfl
theorem B3w (g:Nat) (s:RS) (w:World) (h:WRd w g s) :
 Calls Tryz.prog 34 #[.pointer (some ⟨g,0,none⟩)] w fun e w'=>e=.returned (.int .u64 (H6 (w8L (Lw 8 s))))∧TkR w w' g (Z9 8 s):=by
 have hc:=Pw g s 8 (by decide) w h;rw[show ((8:Nat):Int)=8 from rfl]at hc;clear h;have aB:(Lw 8 s).length≤8:=by
  unfold Lw;split
  ·rw[List.length_take];omega
  ·exact Nat.zero_le _
 generalize Lw 8 s=l at *;generalize Z9 8 s=s' at *;go_enter Tryz.func34,Tryz.ntmps34;go_wp2_with fail;refine hc.mono ?_;rintro e w1 ⟨v,rfl,hv,hT,-⟩;obtain⟨A,c,rfl,aC,aD,aG⟩:=hv.open_;obtain⟨n,hn⟩:∃n,n=l.length:=⟨_,rfl⟩;rw[←hn]at hv aB ⊢;have HN:=Lib.hid hn;clear hn aC aD;go_wp2_with fail;go_loopw [3,9] (fun a x wr=>∃i,i≤n∧x=.int .i64 (i:Int)∧a=.int .u64 (H6 (w8L (l.take i)))∧wr=w1) (fun _ x _=>n-(intOf x).toNat)
 case atStart=>exact ⟨0,by omega,rfl,rfl,rfl⟩
 case round=>
  obtain⟨i,hi,rfl,rfl,rfl⟩:=hrel;by_cases hlt:i<n
  ·have hd:decide ((i:Int)<(n:Int))=true:=decide_eq_true (by omega);have aH:decide (i<n)=true:=decide_eq_true hlt;obtain⟨x,hx⟩:∃x,l[i]?=some x:=⟨_,List.getElem?_eq_getElem (by rw[←HN.out];exact hlt)⟩;obtain⟨g2,o2,c2,hA,-,-,-,-,hrow⟩:=hv.row (by rw[←HN.out];omega);have aE:A=some ⟨g2,o2,none⟩:=by injection hA
   subst aE;have aA:wr.cell? ⟨g2,o2+i,none⟩=some (.int .u8 (n8 x)):=(U9.1 hrow).2 i (v8 x) (by simp[c8,hx]);have aF:=C9y hx;clear hx hrow;go_wp2_with fail;go_roundw;case rel=>exact ⟨i+1,by omega,by go_num,by simp[aF],by trivial⟩
   case measure=>simp[intOf];omega
  ·obtain rfl:i=n:=by omega
   have hd:decide ((i:Int)<(i:Int))=false:=decide_eq_false (by omega);go_wp2_with fail;go_ret;have e:l.take i=l:=List.take_of_length_le (by rw[←HN.out];exact Nat.le_refl _);exact ⟨by rw[e];rfl,hT⟩
def A7f (most:Nat) (s:RS):Nat:=if most<w8N s then 0 else w8N s
def B3p (most:Nat) (s:RS):RS:=if most<w8N s then ((Z9 8 s).1,12) else Z9 8 s
theorem WRd.setBad {w:World} {g:Nat} {s:RS} (h:WRd w g s) (b:Int):WRd (w.setCell ⟨g,1,none⟩ (.int .i64 b)) g (s.1,b):=
 let ⟨v,h1,h2⟩:=h;⟨v,h1.set_ 1 _,h2.grown (T6 w g 1 _) (Nat.le_of_lt h1.lt)⟩
theorem B3i (g:Nat) (s:RS) (most:Nat) (hm:most≤1099511627776) (w:World) (h:WRd w g s) :
 Calls Tryz.prog 153 #[.pointer (some ⟨g,0,none⟩),.int .u64 (most:Int)] w fun e w'=>e=.returned (.int .i64 (A7f most s:Int))∧TkR w w' g (B3p most s):=by
 have hc:=B3w g s w h;clear h;obtain⟨v,hv⟩:∃v,v=w8L (Lw 8 s):=⟨_,rfl⟩;have hn:w8N s=v.toNat:=by unfold w8N;rw[hv]
 unfold A7f B3p;rw[hn];rw[←hv]at hc;clear hv hn;generalize Z9 8 s=s' at *;have aA:H6 v=(v.toNat:Int):=rfl;by_cases hlt:most<v.toNat
 ·have hd:decide ((most:Int)<H6 v)=true:=decide_eq_true (by rw[aA];omega);rw[if_pos hlt,if_pos hlt];clear aA;go_enter Tryz.func153,Tryz.ntmps153;go_wp2_with fail;refine hc.mono ?_;rintro e w1 ⟨rfl,hT⟩;obtain⟨u,K,-⟩:=hT.rd;have f1:=K.frozen 1;have c1:w1.cell? ⟨g,1,none⟩=some (.int .i64 s'.2):=K.at_ rfl;clear K;go_wp2_with fail;go_ret;exact ⟨rfl,hT.rd.setBad 12,hT.gr.trans (T6 w1 g 1 _)⟩
 ·have hd:decide ((most:Int)<H6 v)=false:=decide_eq_false (by rw[aA];omega);have hw:IntKind.i64.wrap (H6 v)=H6 v:=IntWalk.i64_in _ (by rw[aA];omega);rw[if_neg hlt,if_neg hlt];rw[←aA];clear aA;go_enter Tryz.func153,Tryz.ntmps153;go_wp2_with fail;refine hc.mono ?_;rintro e w1 ⟨rfl,hT⟩;go_wp2_with fail;go_ret;exact ⟨rfl,hT⟩
def Ie (s:RS):Nat:=A7f 65536 s
def Jm (s:RS):RS:=B3p 65536 s
theorem Rk (g:Nat) (s:RS) (w:World) (h:WRd w g s) :
 Calls Tryz.prog 96 #[.pointer (some ⟨g,0,none⟩)] w fun e w'=>e=.returned (.int .i64 (Ie s:Int))∧TkR w w' g (Jm s):=by
 have hc:=B3i g s 65536 (by decide) w h;rw[show ((65536:Nat):Int)=65536 from rfl]at hc;clear h;go_enter Tryz.func96,Tryz.ntmps96;go_wp2_with fail;refine hc.mono ?_;rintro e w1 ⟨rfl,hT⟩;go_wp2_with fail;go_ret;exact ⟨rfl,hT⟩
def Jh (s:RS):Int:=if s.2=0∧0<s.1.length then 11 else s.2
theorem Z1 (g:Nat) (s:RS) (w:World) (h:WRd w g s) :
 Calls Tryz.prog 36 #[.pointer (some ⟨g,0,none⟩)] w fun e w'=>e=.returned (.int .i64 (Jh s))∧w'=w:=by
 obtain⟨l,aA⟩:=s;obtain⟨v,K,hy⟩:=h;obtain⟨A,c,rfl,-,-,-⟩:=hy.open_;simp only at K;have c0:w.cell? ⟨g,0,none⟩=some (.slice A l.length c):=K.at_ rfl;have c1:w.cell? ⟨g,1,none⟩=some (.int .i64 aA):=K.at_ rfl;by_cases hb:aA=0
 ·subst hb;rcases Nat.eq_zero_or_pos l.length with hz | hp
  ·have e:Jh (l,0)=0:=by unfold Jh;rw[if_neg (fun h=>by have h2:=h.2;simp only at h2;omega)]
   rw[e];have hd:decide ((0:Int)<(l.length:Int))=false:=decide_eq_false (by omega);have aB:decide (0<l.length)=false:=decide_eq_false (by omega);clear hz;go_enter Tryz.func36,Tryz.ntmps36;go_wp2_with fail;go_ret;exact ⟨rfl,rfl⟩
  ·have e:Jh (l,0)=11:=by unfold Jh;rw[if_pos ⟨rfl,hp⟩]
   rw[e];have hd:decide ((0:Int)<(l.length:Int))=true:=decide_eq_true (by omega);have aB:decide (0<l.length)=true:=decide_eq_true (by omega);go_enter Tryz.func36,Tryz.ntmps36;go_wp2_with fail;go_ret;exact ⟨rfl,rfl⟩
 ·have e:Jh (l,aA)=aA:=by unfold Jh;rw[if_neg (by simp[hb])]
  have aC:(aA==0)=false:=beq_eq_false_iff_ne.2 hb;rw[e];go_enter Tryz.func36,Tryz.ntmps36;go_wp2_with fail;go_ret;exact ⟨rfl,rfl⟩
theorem Zw (v:Value) (l:List UInt8) (w:World) (hv:By w 0 w.heap.size v l) (hn:l.length≤1099511627776) :
 Calls Tryz.prog 83 #[v] w fun e w'=>∃u,e=.returned u∧By w' w.heap.size w'.heap.size u l∧Mb w' u.ownBlock 5∧Below w.heap.size w w':=by
 rcases Nat.eq_zero_or_pos l.length with hz | hp
 ·obtain rfl:=List.eq_nil_of_length_eq_zero hz;obtain⟨A,c,rfl,hc1,hc2,-⟩:=hv.open_;have aE:∀(w:World) (a:Option Addr) (n c n' c':Nat),(binOp .eql 29 (.slice a n c) (.slice none n' c')).run Tryz.prog w=.ok (.bool a.isNone) w:=fun w a n c n' c'=>Lib.run_eql_slice_nil w _ _ a n c n' c' Tryz.underlying29;have aA:∀w':World,By w' w.heap.size w'.heap.size (.slice none 0 0) []:=fun w'=>⟨none,0,rfl,Nat.le_refl _,by decide,.inl rfl⟩;cases A with
  | none=>
   go_enter Tryz.func83,Tryz.ntmps83;go_wp2_with fail;go_ret;exact ⟨_,rfl,aA _,fun g e=>(by cases e),Below.refl _ _⟩
  | some a=>
   have aC:=Lib.hid (hv.alloc (Nat.le_refl _) (.cells #[] 5));have ho:Hid (J6 (w.alloc (.cells #[] 5)) w.heap.size (.slice (some ⟨w.heap.size,0,none⟩) 0 0) []):=Lib.hid (World.ownsRow_made w #[] 0 (Nat.le_refl _) (Nat.zero_le _) (by simp));clear hv;go_enter Tryz.func83,Tryz.ntmps83;go_wp2_with (at_builtin;refine Tb _ w.heap.size _ [] rfl _ _ rfl rfl ho.out _ rfl [] 0 _ aC.out (by simp) (by simp) ?_;intro A2 c2 w2 aF aG aB aD aH aI);go_ret;exact ⟨_,rfl,by simpa using aB.by_,Ae aB,((Below.refl _ _).alloc (Nat.le_refl _) _).trans aD⟩
 ·refine (A1x v l w hv hp hn).mono ?_;rintro e w' ⟨u,rfl,ho,hb⟩;exact ⟨u,rfl,ho.by_,Ae ho,hb⟩
def byN (s:RS):Nat:=A7f 1048576 s
def Xy (s:RS):List UInt8:=Lw (byN s) (B3p 1048576 s)
def rbS (s:RS):RS:=Z9 (byN s) (B3p 1048576 s)
theorem Kg (most:Nat) (s:RS):A7f most s≤most:=by unfold A7f;split<;>omega
theorem Oi (g:Nat) (s:RS) (w:World) (h:WRd w g s) :
 Calls Tryz.prog 94 #[.pointer (some ⟨g,0,none⟩)] w fun e w'=>∃u,e=.returned u∧By w' w.heap.size w'.heap.size u (Xy s)∧Mb w' u.ownBlock 5∧TkR w w' g (rbS s):=by
 have hc:=B3i g s 1048576 (by decide) w h;rw[show ((1048576:Nat):Int)=1048576 from rfl]at hc;have aA:=Kg 1048576 s;unfold Xy rbS byN;generalize A7f 1048576 s=n at *;generalize B3p 1048576 s=s1 at *;clear h;go_enter Tryz.func94,Tryz.ntmps94;go_wp2_with fail;refine hc.mono ?_;rintro e w1 ⟨rfl,hT⟩;go_wp2_with fail;refine (Pw g s1 n (by omega) w1 hT.rd).mono ?_;rintro e w2 ⟨v,rfl,hv,hT2,-⟩;have hl:(Lw n s1).length≤1099511627776:=by
  unfold Lw;split
  ·rw[List.length_take];omega
  ·exact Nat.zero_le _
 go_wp2_with fail;refine (Zw v (Lw n s1) w2 (hv.more (Nat.le_of_lt hT2.rd.lt)) hl).mono ?_;rintro e w3 ⟨u,rfl,hu,hk,b3⟩;have hs:w.heap.size≤w2.heap.size:=Nat.le_trans hT.gr.size hT2.gr.size;go_wp2_with fail;go_ret;exact ⟨_,rfl,By.less hu hs,hk,hT2.rd.up b3,(hT.gr.trans hT2.gr).trans (E9 b3 g)⟩
theorem A3l (v:Value) (l:List UInt8) (w:World) (hv:By w 0 w.heap.size v l) (hn:l.length≤1099511627776) :
 Calls Tryz.prog 33 #[v] w fun e w'=>∃g,e=.returned (.pointer (some ⟨g,0,none⟩))∧w.heap.size≤g∧WRd w' g (l,0)∧Below w.heap.size w w':=by
 go_enter Tryz.func33,Tryz.ntmps33;go_wp2_with fail;refine (Zw v l w hv hn).mono ?_;rintro e w1 ⟨u,rfl,hu,-,b1⟩;obtain⟨A,c,rfl,hc1,hc2,-⟩:=hu.open_;go_wp2_with fail;go_ret;exact ⟨_,rfl,b1.size,⟨_,Bk.new w1 _ _,(By.less hu (Nat.zero_le _)).alloc (Nat.le_refl _) _⟩,b1.alloc b1.size _⟩
def Pz (s:RS):List UInt8:=if Lw 32 s=[] then z8 32 else Lw 32 s
def sgL (s:RS):List UInt8:=if Lw 64 s=[] then z8 64 else Lw 64 s
theorem Pg (g:Nat) (s:RS) (w:World) (h:WRd w g s) :
 Calls Tryz.prog 35 #[.pointer (some ⟨g,0,none⟩)] w fun e w'=>e=.returned (A8 (Pz s))∧TkR w w' g (Z9 32 s):=by
 obtain⟨W0,aB⟩:∃x,x=(w.alloc (Obj.cells (c8 (z8 32)).toArray 35)).alloc (Obj.cells (c8 (z8 32)).toArray 35):=⟨_,rfl⟩;have B0:Below w.heap.size w W0:=by rw[aB];exact ((Below.refl _ _).alloc (Nat.le_refl _) _).alloc (by simp) _
 have R0:Bk W0 w.heap.size 35 (c8 (z8 32)):=by rw[aB];exact (Bk.new w _ _).alloc _
 have H0:Bk W0 (w.heap.size+1) 35 (c8 (z8 32)):=by rw[aB];simpa using Bk.new (w.alloc (Obj.cells (c8 (z8 32)).toArray 35)) 35 (c8 (z8 32))
 have zg:=h.lt;have hr:WRd W0.drew g s:=(h.below B0 zg).below (B:=w.heap.size) ((Below.refl _ W0).drew) zg;have aA:=Pw g s 32 (by decide) W0.drew hr;rw[show ((32:Nat):Int)=32 from rfl]at aA;unfold Pz;have aI:Lw 32 s=[]∨(Lw 32 s).length=32:=by
  unfold Lw;split
  ·rename_i h1;exact .inr (by rw[List.length_take];omega)
  ·exact .inl rfl
 have hz:(z8 32).length=32:=Q2 32;clear h hr;generalize Lw 32 s=x at *;generalize Z9 32 s=s' at *;obtain⟨r,aD⟩:∃r,r=(if x=[] then z8 32 else x):=⟨_,rfl⟩;rw[←aD];have HR:=Lib.hid aD;clear aD;go_enter Tryz.func35,Tryz.ntmps35;go_wp2_with fail;rw[←aB];clear aB;have aJ:Below w.heap.size w W0.drew:=B0.drew;refine D9 (fun W=>True) (by kernel_rfl) ?_;refine C4 (A:=?A1) [0,1] (by kernel_rfl) (by kernel_rfl) rfl (by kernel_rfl) (by kernel_rfl) trivial (h:=fun W hW=>?h1) (hr:=?r1);case h1=>
  simp only[pick,List.getElem?_cons_zero,List.getElem?_cons_succ];repeat (go_big_quiet_step (fail))
  refine wpQuiet_nil ?_;rfl
 refine C2 2 (by kernel_rfl) (by rfl) (by rfl) (fun Q' hQ'=>?_);dsimp only[D8];go_wp2_with fail;refine aA.mono ?_;rintro e w1 ⟨u,rfl,hu,hT,aK⟩;have H1:=H0.drew.grown (w':=w1) (row:=some g) hT.gr (fun e=>by injection e with e;have:=H0.lt;omega);have R1:=R0.drew.grown (w':=w1) (row:=some g) hT.gr (fun e=>by injection e with e;omega);have G1:=(E9 aJ g).trans hT.gr;have aH:=hT.rd;clear hT;go_wp2_with fail;refine hQ' _ _ trivial ?_;clear hQ';refine C2 3 (by kernel_rfl) (by rfl) (by rfl) (fun Q' hQ'=>?_);dsimp only[D8];rcases aI with rfl | hlx
 ·obtain rfl:=aK (by decide) rfl;obtain rfl:r=z8 32:=by rw[HR.out,if_pos rfl]
  have aE:∀ty,(Builtin.copy_ #[29,29] ty #[.slice (some ⟨w.heap.size+1,0,none⟩) 32 32,.slice none 0 0]).run Tryz.prog w1=.ok (goInt 0) w1:=fun ty=>run_copy_none w1 _ _ ty 5 _ _ _ _ _ _ Tryz.underlying29 (by kernel_rfl) (by decide);go_wp2_with fail;refine hQ' _ _ trivial ?_;clear hQ' aE;refine E5 (by kernel_rfl) ?_;have aF:C6 w1 ⟨w.heap.size+1,0,none⟩ 32=some (c8 (z8 32)):=by have:=H1.rows;rwa [C3,Q2]at this
  have aG:E4 w1 ⟨w.heap.size,0,none⟩ 32=true:=R1.can (by simp);go_wp2_with fail;refine bodyPost_ret (C8 rfl _ _ _ _ _ _ rfl (R1.puts (vs:=c8 (z8 32)) (by simp)) Tryz.underlying35 rfl (by simp[J5])) rfl ⟨rfl,?_,T5 G1 (Nat.le_refl _) _ _⟩;exact aH.putFar zg _
 ·have aL:x≠[]:=fun e=>by rw[e]at hlx;simp at hlx
  obtain rfl:x=r:=by rw[HR.out,if_neg aL]
  obtain⟨gu,ou,cu,rfl,aN,aM,_,aO,aC⟩:=hu.row (by omega);rw[hlx];have aE:∀ty,(Builtin.copy_ #[29,29] ty #[.slice (some ⟨w.heap.size+1,0,none⟩) 32 32,.slice (some ⟨gu,ou,none⟩) 32 cu]).run Tryz.prog w1=.ok (goInt 32) (C5 w1 ⟨w.heap.size+1,0,none⟩ (c8 x)):=fun ty=>by
   have:=run_copy_cells (P:=Tryz.prog) w1 29 29 ty 5 (w.heap.size+1) 0 32 32 ⟨gu,ou,none⟩ 32 cu (c8 x) Tryz.underlying29 (by kernel_rfl) (by simp[hlx]) (fun j v hj=>(Kw aC).2 j v hj) (fun j hj=>by rw[Nat.zero_add,H1.cell];simp[hlx]at hj;simp[hj]) (fun j hj=>H1.frozen _) (by intro u hu;obtain⟨y,_,rfl⟩:=List.mem_map.1 hu;rfl);rw[C3,hlx]at this;exact this
  go_wp2_with fail;refine hQ' _ _ trivial ?_;clear hQ' aE;refine E5 (by kernel_rfl) ?_;have H2:=H1.puts (vs:=c8 x) (by simp[hlx]);have R2:=R1.putFar (p:=⟨w.heap.size+1,0,none⟩) (by simp) (c8 x);have aF:C6 (C5 w1 ⟨w.heap.size+1,0,none⟩ (c8 x)) ⟨w.heap.size+1,0,none⟩ 32=some (c8 x):=by have:=H2.rows;rwa [C3,hlx]at this
  have aG:E4 (C5 w1 ⟨w.heap.size+1,0,none⟩ (c8 x)) ⟨w.heap.size,0,none⟩ 32=true:=R2.can (by simp);go_wp2_with fail;refine bodyPost_ret (C8 rfl _ _ _ _ _ _ rfl (R2.puts (vs:=c8 x) (by simp[hlx])) Tryz.underlying35 rfl (by simp[J5,hlx])) rfl ⟨rfl,?_,T5 (T5 G1 (by omega) _ _) (Nat.le_refl _) _ _⟩;exact (aH.putFar (show g<w.heap.size+1 by omega) _).putFar zg _
theorem C5z (g:Nat) (s:RS) (w:World) (h:WRd w g s) :
 Calls Tryz.prog 155 #[.pointer (some ⟨g,0,none⟩)] w fun e w'=>e=.returned (A8 (sgL s))∧TkR w w' g (Z9 64 s):=by
 obtain⟨W0,aB⟩:∃x,x=(w.alloc (Obj.cells (c8 (z8 64)).toArray 46)).alloc (Obj.cells (c8 (z8 64)).toArray 46):=⟨_,rfl⟩;have B0:Below w.heap.size w W0:=by rw[aB];exact ((Below.refl _ _).alloc (Nat.le_refl _) _).alloc (by simp) _
 have R0:Bk W0 w.heap.size 46 (c8 (z8 64)):=by rw[aB];exact (Bk.new w _ _).alloc _
 have H0:Bk W0 (w.heap.size+1) 46 (c8 (z8 64)):=by rw[aB];simpa using Bk.new (w.alloc (Obj.cells (c8 (z8 64)).toArray 46)) 46 (c8 (z8 64))
 have zg:=h.lt;have hr:WRd W0.drew g s:=(h.below B0 zg).below (B:=w.heap.size) ((Below.refl _ W0).drew) zg;have aA:=Pw g s 64 (by decide) W0.drew hr;rw[show ((64:Nat):Int)=64 from rfl]at aA;unfold sgL;have aI:Lw 64 s=[]∨(Lw 64 s).length=64:=by
  unfold Lw;split
  ·rename_i h1;exact .inr (by rw[List.length_take];omega)
  ·exact .inl rfl
 have hz:(z8 64).length=64:=Q2 64;clear h hr;generalize Lw 64 s=x at *;generalize Z9 64 s=s' at *;obtain⟨r,aD⟩:∃r,r=(if x=[] then z8 64 else x):=⟨_,rfl⟩;rw[←aD];have HR:=Lib.hid aD;clear aD;go_enter Tryz.func155,Tryz.ntmps155;go_wp2_with fail;rw[←aB];clear aB;have aJ:Below w.heap.size w W0.drew:=B0.drew;refine D9 (fun W=>True) (by kernel_rfl) ?_;refine C4 (A:=?A1) [0,1] (by kernel_rfl) (by kernel_rfl) rfl (by kernel_rfl) (by kernel_rfl) trivial (h:=fun W hW=>?h1) (hr:=?r1);case h1=>
  simp only[pick,List.getElem?_cons_zero,List.getElem?_cons_succ];repeat (go_big_quiet_step (fail))
  refine wpQuiet_nil ?_;rfl
 refine C2 2 (by kernel_rfl) (by rfl) (by rfl) (fun Q' hQ'=>?_);dsimp only[D8];go_wp2_with fail;refine aA.mono ?_;rintro e w1 ⟨u,rfl,hu,hT,aK⟩;have H1:=H0.drew.grown (w':=w1) (row:=some g) hT.gr (fun e=>by injection e with e;have:=H0.lt;omega);have R1:=R0.drew.grown (w':=w1) (row:=some g) hT.gr (fun e=>by injection e with e;omega);have G1:=(E9 aJ g).trans hT.gr;have aH:=hT.rd;clear hT;go_wp2_with fail;refine hQ' _ _ trivial ?_;clear hQ';refine C2 3 (by kernel_rfl) (by rfl) (by rfl) (fun Q' hQ'=>?_);dsimp only[D8];rcases aI with rfl | hlx
 ·obtain rfl:=aK (by decide) rfl;obtain rfl:r=z8 64:=by rw[HR.out,if_pos rfl]
  have aE:∀ty,(Builtin.copy_ #[29,29] ty #[.slice (some ⟨w.heap.size+1,0,none⟩) 64 64,.slice none 0 0]).run Tryz.prog w1=.ok (goInt 0) w1:=fun ty=>run_copy_none w1 _ _ ty 5 _ _ _ _ _ _ Tryz.underlying29 (by kernel_rfl) (by decide);go_wp2_with fail;refine hQ' _ _ trivial ?_;clear hQ' aE;refine E5 (by kernel_rfl) ?_;have aF:C6 w1 ⟨w.heap.size+1,0,none⟩ 64=some (c8 (z8 64)):=by have:=H1.rows;rwa [C3,Q2]at this
  have aG:E4 w1 ⟨w.heap.size,0,none⟩ 64=true:=R1.can (by simp);go_wp2_with fail;refine bodyPost_ret (C8 rfl _ _ _ _ _ _ rfl (R1.puts (vs:=c8 (z8 64)) (by simp)) Tryz.underlying46 rfl (by simp[Nw])) rfl ⟨rfl,?_,T5 G1 (Nat.le_refl _) _ _⟩;exact aH.putFar zg _
 ·have aL:x≠[]:=fun e=>by rw[e]at hlx;simp at hlx
  obtain rfl:x=r:=by rw[HR.out,if_neg aL]
  obtain⟨gu,ou,cu,rfl,aN,aM,_,aO,aC⟩:=hu.row (by omega);rw[hlx];have aE:∀ty,(Builtin.copy_ #[29,29] ty #[.slice (some ⟨w.heap.size+1,0,none⟩) 64 64,.slice (some ⟨gu,ou,none⟩) 64 cu]).run Tryz.prog w1=.ok (goInt 64) (C5 w1 ⟨w.heap.size+1,0,none⟩ (c8 x)):=fun ty=>by
   have:=run_copy_cells (P:=Tryz.prog) w1 29 29 ty 5 (w.heap.size+1) 0 64 64 ⟨gu,ou,none⟩ 64 cu (c8 x) Tryz.underlying29 (by kernel_rfl) (by simp[hlx]) (fun j v hj=>(Kw aC).2 j v hj) (fun j hj=>by rw[Nat.zero_add,H1.cell];simp[hlx]at hj;simp[hj]) (fun j hj=>H1.frozen _) (by intro u hu;obtain⟨y,_,rfl⟩:=List.mem_map.1 hu;rfl);rw[C3,hlx]at this;exact this
  go_wp2_with fail;refine hQ' _ _ trivial ?_;clear hQ' aE;refine E5 (by kernel_rfl) ?_;have H2:=H1.puts (vs:=c8 x) (by simp[hlx]);have R2:=R1.putFar (p:=⟨w.heap.size+1,0,none⟩) (by simp) (c8 x);have aF:C6 (C5 w1 ⟨w.heap.size+1,0,none⟩ (c8 x)) ⟨w.heap.size+1,0,none⟩ 64=some (c8 x):=by have:=H2.rows;rwa [C3,hlx]at this
  have aG:E4 (C5 w1 ⟨w.heap.size+1,0,none⟩ (c8 x)) ⟨w.heap.size,0,none⟩ 64=true:=R2.can (by simp);go_wp2_with fail;refine bodyPost_ret (C8 rfl _ _ _ _ _ _ rfl (R2.puts (vs:=c8 x) (by simp[hlx])) Tryz.underlying46 rfl (by simp[Nw,hlx])) rfl ⟨rfl,?_,T5 (T5 G1 (by omega) _ _) (Nat.le_refl _) _ _⟩;exact (aH.putFar (show g<w.heap.size+1 by omega) _).putFar zg _
def Ia (u:UV):List UInt8:=[u.id,J9 (Fk u.ver),u.key,u.sig].flatten
def hbL (us:List UV):List UInt8:=J9 (UInt64.ofNat us.length)++us.flatMap Ia
theorem B2b {u:UV} (h:u.Ok):(Ia u).length=136:=by simp[Ia,h.id,h.key,h.sig]
theorem Js:∀ {us:List UV},(∀u∈us,u.Ok)→(us.flatMap Ia).length=us.length*136
 | [],_=>rfl
 | u::us,h=>by
  rw[List.flatMap_cons,List.length_append,B2b (h u (by simp)),Js fun x hx=>h x (List.mem_cons_of_mem _ hx),List.length_cons];omega
theorem D1w {us:List UV} {i:Nat} {u:UV} (hu:us[i]?=some u) (l:List UInt8):[l++(us.take i).flatMap Ia,u.id,J9 (Fk u.ver),u.key,u.sig].flatten=l++(us.take (i+1)).flatMap Ia:=by
 rw[List.take_add_one,hu];simp[Ia]
theorem B4i {W:World} {g o n:Nat} {l:List UInt8} (h:C6 W ⟨g,o,none⟩ n=some (c8 l)) (hg:g<W.heap.size) (hl:l.length=n) (hn:n≤9223372036854775807):By W 0 W.heap.size (.slice (some ⟨g,o,none⟩) n n) l:=by
 subst hl;exact ⟨some ⟨g,o,none⟩,l.length,by simp,by simp,hn,.inr ⟨g,o,rfl,Nat.zero_le _,hg,fun j u hj=>(U9.1 h).2 j u hj⟩⟩
theorem B6d (v:Value) (us:List UV) (w:World) (hU:US w w.heap.size v us) (hn:us.length≤1000000) :
 Calls Tryz.prog 50 #[v] w fun x w'=>∃u,x=.returned u∧By w' 0 w'.heap.size u (hbL us)∧Below w.heap.size w w':=by
 obtain⟨A,c,rfl⟩:=hU.form;obtain⟨n,aH⟩:∃n,n=us.length:=⟨_,rfl⟩;have hw:IntKind.u64.wrap (us.length:Int)=H6 (UInt64.ofNat us.length):=by rw[Dv];unfold H6;simp
 have HL:Hid (hbL us=J9 (UInt64.ofNat n)++us.flatMap Ia):=Lib.hid (by rw[aH];rfl);have aF:∀u∈us,u.Ok:=by
  rcases hU with ⟨h1,_⟩ | ⟨g,tl,c',_,h2,_⟩
  ·subst h1;intro u hu;cases hu
  ·exact h2.1
 rw[←aH]at hU hn hw ⊢;have HN:=Lib.hid aH;have HU:=Lib.hid hU;clear hU aH;go_enter Tryz.func50,Tryz.ntmps50;go_wp2_with fail;refine (Ca (.slice none 0 0) [] (UInt64.ofNat n) w (.inl ⟨rfl,rfl⟩) (by simp)).mono ?_;rintro x w1 ⟨o1,rfl,O1,b1⟩;have aQ:By w1 0 w1.heap.size o1 (J9 (UInt64.ofNat n)++(us.take 0).flatMap Ia):=by simpa using O1.up
 clear O1 hw;go_wp2_with fail;go_loopw [3,12] (fun ov x wr=>∃(i:Nat),i≤n∧x=.int .i64 (i:Int)∧By wr 0 wr.heap.size ov (J9 (UInt64.ofNat n)++(us.take i).flatMap Ia)∧Below w.heap.size w wr) (fun _ x _=>n-(intOf x).toNat)
 case atStart=>exact ⟨0,by omega,rfl,aQ,b1⟩
 case round=>
  clear aQ;obtain⟨i,hi,rfl,aG,B⟩:=hrel;by_cases hlt:i<n
  ·have hd:decide ((i:Int)<(n:Int))=true:=decide_eq_true (by omega);have bD:decide (i<n)=true:=decide_eq_true hlt;have aI:i<us.length:=by rw[←HN.out];exact hlt
   obtain⟨u,hu⟩:∃u,us[i]?=some u:=⟨_,List.getElem?_eq_getElem aI⟩;obtain⟨g,tl,rfl,aR,hg⟩:∃g tl,A=some ⟨g,0,none⟩∧UH w g us tl∧g<w.heap.size:=by
    rcases HU.out with ⟨h1,_⟩ | ⟨g,tl,c',h1,h2,h3⟩
    ·rw[h1]at aI;simp at aI
    ·injection h1 with h1;exact ⟨g,tl,h1,h2,h3⟩
   have aA:u.Ok:=aF u (List.mem_of_getElem? hu);have aY:=(aR.below B hg).row hu;have aZ:=aA.len;have bA:=Vi u.ver;have aS:=Lib.hid (D1w hu (J9 (UInt64.ofNat n)));have aM:(J9 (UInt64.ofNat n)++(us.take i).flatMap Ia).length≤200000000:=by rw[List.length_append,Q8,Js fun x hx=>aF x (List.mem_of_mem_take hx),List.length_take];omega
   clear aR aI hu;obtain⟨l,hl⟩:∃l,l=J9 (UInt64.ofNat n)++(us.take i).flatMap Ia:=⟨_,rfl⟩;rw[←hl]at aG aM aS;clear hl;obtain⟨W,hW⟩:∃x,x=C5 (wr.alloc (Obj.cells (P9 (Ic 129)).toArray 48)) ⟨wr.heap.size,0,none⟩ (P9 u):=⟨_,rfl⟩;have aN:=(Bk.new wr 48 (P9 (Ic 129))).canvc (n:=129) (Cr _).len;have ku:Bk W wr.heap.size 48 (P9 u):=by rw[hW];exact (Bk.new wr 48 (P9 (Ic 129))).putvc (n:=129) (Cr _).len aZ
   have bW:Below wr.heap.size wr W:=by rw[hW];exact C1 ((Below.refl _ _).alloc (Nat.le_refl _) _) (Nat.le_refl _) _
   have aD:=aG.up bW;have BW:=C0 B bW B.size;go_wp2_with fail;rw[←hW];clear hW aN aY bW aG B;generalize wr.heap.size=gu at *;obtain⟨Ao,co,rfl,-,-,-⟩:=aD.open_;have S0:Below W.heap.size W W.drew:=(Below.refl _ _).drew;have aT:=aD.up S0;have aJ:=ku.below S0 ku.lt;have B2:=C0 BW S0 BW.size;clear aD ku BW S0;refine D9 (fun X=>Bk X gu 48 (P9 u)) (by kernel_rfl) ?_;refine C4 (A:=?bE) [0,1,2,3,4,5,7,8,9,10] (by kernel_rfl) (by kernel_rfl) rfl (by kernel_rfl) (by kernel_rfl) aJ (h:=fun X hX=>?bB) (hr:=?bF);case bB=>
    have f1:X.cell? ⟨gu,32,none⟩=some (.int .i64 u.ver):=UV.loadver hX aA;simp only[pick,List.getElem?_cons_zero,List.getElem?_cons_succ];repeat (go_big_quiet_step (fail))
    refine wpQuiet_nil ?_;rfl
   refine C2 6 (by kernel_rfl) (by rfl) (by rfl) (fun Q' hQ'=>?_);dsimp only[D8];have aC:=Lib.hid hQ';clear hQ';go_wp2_with fail;refine (Ca (.slice none 0 0) [] (Fk u.ver) W.drew (.inl ⟨rfl,rfl⟩) (by simp)).mono ?_;rintro x w3 ⟨nv,rfl,On,b3⟩;have aU:=aT.up b3;have aK:=aJ.below b3 aJ.lt;have B3:=C0 B2 b3 B2.size;have aO:By w3 0 w3.heap.size nv (J9 (Fk u.ver)):=by simpa using On.up
   obtain⟨An,cn,rfl,-,-,-⟩:=aO.open_;clear On aT aJ B2 b3;go_wp2_with fail;refine aC.out _ _ aK ?_;clear aC;refine C2 11 (by kernel_rfl) (by rfl) (by rfl) (fun Q' hQ'=>?_);dsimp only[D8];have aC:=Lib.hid hQ';clear hQ';go_wp2_with fail;obtain⟨W4,aL⟩:∃y,y=w3.alloc (Obj.cells #[.slice Ao l.length co,.slice (some ⟨gu,0,none⟩) 32 32,.slice An 8 cn,.slice (some ⟨gu,33,none⟩) 32 32,.slice (some ⟨gu,65,none⟩) 64 64] 29):=⟨_,rfl⟩;rw[←aL];have k4:Bk W4 w3.heap.size 29 [.slice Ao l.length co,.slice (some ⟨gu,0,none⟩) 32 32,.slice An 8 cn,.slice (some ⟨gu,33,none⟩) 32 32,.slice (some ⟨gu,65,none⟩) 64 64]:=by rw[aL];exact Bk.new w3 _ _
   have b4:Below w3.heap.size w3 W4:=by rw[aL];exact (Below.refl _ _).alloc (Nat.le_refl _) _
   have aV:=aU.up b4;have aW:=aO.up b4;have aE:=aK.below b4 aK.lt;have B4:=C0 B3 b4 B3.size;have aP:=aE.lt;have p0:=B4i (UV.loadid aE aA) aP aA.id (by decide);have p1:=B4i (UV.loadkey aE aA) aP aA.key (by decide);have p2:=B4i (UV.loadsig aE aA) aP aA.sig (by decide);have aB:M5 W4 W4.heap.size (.slice (some ⟨w3.heap.size,0,none⟩) 5 5) [l,u.id,J9 (Fk u.ver),u.key,u.sig]:=Bk.parts k4 rfl (by simp[maxLen]) fun i x q hx hq=>by
    match i with
    | 0=>cases hx;cases hq;exact aV
    | 1=>cases hx;cases hq;exact p0
    | 2=>cases hx;cases hq;exact aW
    | 3=>cases hx;cases hq;exact p1
    | 4=>cases hx;cases hq;exact p2
    | i+5=>simp at hx
   have bC:=Lib.hid aB;clear aL aU aO aK B3 b4 k4 aB p0 p1 p2 aV aW;refine aC.out _ _ aE ?_;clear aC;refine C2 12 (by kernel_rfl) (by rfl) (by rfl) (fun Q' hQ'=>?_);dsimp only[D8];have aC:=Lib.hid hQ';clear hQ';go_wp2_with fail;refine (A5j _ [l,u.id,J9 (Fk u.ver),u.key,u.sig] W4 bC.out (by simp[aA.id,aA.key,aA.sig];omega)).mono ?_;rintro x w5 ⟨jv,rfl,Oj,b5⟩;rw[aS.out]at Oj;have aX:=aE.below b5 aE.lt;have B5:=C0 B4 b5 B4.size;have Hj:=Lib.hid Oj.up;clear Oj;go_wp2_with fail;refine aC.out _ _ aX ?_;clear aC;refine C2 13 (by kernel_rfl) (by rfl) (by rfl) (fun Q' hQ'=>?_);dsimp only[D8];go_wp2_with fail;refine hQ' _ _ aX ?_;clear hQ';refine E5 (by kernel_rfl) ?_;go_wp2_with fail;go_roundw;case rel=>exact ⟨i+1,by omega,by go_num,Hj.out,B5⟩
   case measure=>simp[intOf];omega
  ·obtain rfl:i=n:=by omega
   have hd:decide ((i:Int)<(i:Int))=false:=decide_eq_false (by omega);go_wp2_with fail;go_ret;refine ⟨_,rfl,?_,B⟩;rw[HL.out];rw[List.take_of_length_le (by rw[←HN.out];exact Nat.le_refl _)]at aG;exact aG
end Go.Proofs.YtdfpoofbgjilgaaGreat
