/- A part of the proof of DirBuilds. -/
import Derived.Laws.IdiomCopy
import Derived.Test.YtlegpkdighoflaaGreatSbf
set_option linter.unusedVariables false
set_option linter.unusedSimpArgs false
set_option maxRecDepth 100000
set_option maxHeartbeats 40000000
namespace Go.Proofs.YtlegpkdighoflaaGreat
open Go Go.RowKit Sh
section
def UH (w:World) (b:Nat) (us:List UV) (tl:List Value):Prop:=(∀u∈us,u.Ok)∧Bk w b 63 (us.flatMap Aw++tl)
theorem F2f:∀ {us:List UV},(∀u∈us,u.Ok)→(us.flatMap Aw).length=us.length*129:=by
 intro us;induction us with
 | nil=>intro _;rfl
 | cons u us ih=>
  intro h;have hu:(Aw u).length=129:=(h u (by simp)).len;rw[List.flatMap_cons,List.length_append,ih (fun x hx=>h x (by simp[hx])),hu,List.length_cons];omega
theorem uat:∀ {us:List UV},(∀u∈us,u.Ok)→∀ {i:Nat} {u:UV},us[i]?=some u→((us.flatMap Aw).drop (i*129)).take 129=Aw u:=by
 intro us;induction us with
 | nil=>intro _ i u h;simp at h
 | cons x us ih=>
  intro h i u hi;have hx:(Aw x).length=129:=(h x (by simp)).len;cases i with
  | zero=>
   obtain rfl:x=u:=by simpa using hi
   rw[List.flatMap_cons,Nat.zero_mul,List.drop_zero,List.take_append_of_le_length (by omega),List.take_of_length_le (by omega)]
  | succ i=>
   have:=ih (fun y hy=>h y (by simp[hy])) (i:=i) (u:=u) (by simpa using hi);rw[List.flatMap_cons,List.drop_append,List.drop_eq_nil_of_le (by omega),hx];have e:(i+1)*129-129=i*129:=by omega
   rw[e,List.nil_append,this]
section
variable {w w' : World} {b : Nat} {us : List UV} {tl : List Value}
theorem UH.below {B:Nat} (h:UH w b us tl) (hb:Below B w w') (hg:b<B):UH w' b us tl:=⟨h.1,h.2.below hb hg⟩
theorem UH.row (h:UH w b us tl) {i:Nat} {u:UV} (hk:us[i]?=some u):E5 w ⟨b,i*129,none⟩ 129=some (Aw u):=by
 have hi:i<us.length:=(List.getElem?_eq_some_iff.1 hk).1;have hl:=F2f h.1;rw[h.2.row (by rw[List.length_append,hl];omega)];congr 1;have aA:=uat h.1 hk;rw[List.drop_append_of_le_length (by omega),List.take_append_of_le_length (by rw[List.length_drop];omega)];exact aA
end
end
section
def A3d (b:Bool) (bad:Int):Int:=if b&&(bad==0) then 13 else bad
def Lp (w:World) (g:Nat) (l:List UInt8) (bad:Int):Prop:=∃v,Bk w g 124 [v,.int .i64 bad]∧By w 0 g v l
theorem Lp.lt {w:World} {g:Nat} {l:List UInt8} {bad:Int} (h:Lp w g l bad):g<w.heap.size:=let ⟨_,h1,_⟩:=h;h1.lt
theorem By.grown {w w':World} {lo g:Nat} {v:Value} {l:List UInt8} (h:By w lo g v l) (hg:w.grownBy w' (some g)) (hl:g≤w.heap.size):By w' lo g v l:=
 h.below ((Below.refl _ _).grown hg hl (fun k hk=>by injection hk with hk;omega))
theorem Lp.below {w w':World} {g B:Nat} {l:List UInt8} {bad:Int} (h:Lp w g l bad) (hb:Below B w w') (hB:g<B):Lp w' g l bad:=
 let ⟨v,h1,h2⟩:=h;⟨v,h1.below hb hB,h2.below (hb.mono (by omega))⟩
theorem Z2 {w w':World} (hb:Below w.heap.size w w') (g:Nat):w.grownBy w' (some g):=⟨hb.os,hb.tape,hb.output,hb.size,fun k hk _=>hb.block k hk⟩
theorem Gw (w:World) (g o:Nat) (u:Value):w.grownBy (w.setCell ⟨g,o,none⟩ u) (some g):=⟨by simp[World.setCell],by simp[World.setCell],by simp[World.setCell],by simp[World.setCell],fun k hk hne=>Below.heap_setCell w _ u k (fun e=>hne (by rw[e]))⟩
theorem Kv {w W:World} {g:Nat} (h:w.grownBy W (some g)) {b:Nat} (hb:w.heap.size≤b) (o:Nat) (vs:List Value):w.grownBy (C9 W ⟨b,o,none⟩ vs) (some g):=by
 have h2:=C1 (a:=⟨b,o,none⟩) (Below.refl 0 W) (Nat.zero_le _) vs;exact ⟨h2.os.trans h.os,h2.tape.trans h.tape,h2.output.trans h.output,Nat.le_trans h.size h2.size,fun k hk hne=>(Aj _ _ _ _ _ (show k≠b by omega)).trans (h.block k hk hne)⟩
theorem Lp.putFar {w:World} {g:Nat} {l:List UInt8} {bad:Int} (h:Lp w g l bad) {a:Addr} (ha:g<a.block) (vs:List Value):Lp (C9 w a vs) g l bad:=
 let ⟨v,h1,h2⟩:=h;⟨v,h1.putFar (by omega) vs,h2.below (C1 (Below.refl _ _) (by omega) vs)⟩
section
variable (g : Nat) (l : List UInt8) (w : World)
theorem B2e (bad:Int) (hb:bad≠0) (n:Nat) (h:Lp w g l bad) :
 Calls Tryz.prog 88 #[.pointer (some ⟨g,0,none⟩),.int .i64 (n:Int)] w fun e w'=>e=.returned (.slice none 0 0)∧w'=w:=by
 obtain⟨v,K,hy⟩:=h;have c1:w.cell? ⟨g,1,none⟩=some (.int .i64 bad):=K.at_ rfl;have aA:(bad==0)=false:=beq_eq_false_iff_ne.2 hb;go_enter Tryz.func88,Tryz.ntmps88;go_wp2_with fail;go_ret;exact ⟨rfl,rfl⟩
theorem A0h (n:Nat) (hn:l.length<n) (hn2:n≤1099511627776) (h:Lp w g l 0) :
 Calls Tryz.prog 88 #[.pointer (some ⟨g,0,none⟩),.int .i64 (n:Int)] w fun e w'=>e=.returned (.slice none 0 0)∧Lp w' g l 10∧w.grownBy w' (some g):=by
 obtain⟨v,K,hy⟩:=h;obtain⟨A,c,rfl,aA,aB,aC⟩:=hy.open_;have c0:w.cell? ⟨g,0,none⟩=some (.slice A l.length c):=K.at_ rfl;have c1:w.cell? ⟨g,1,none⟩=some (.int .i64 0):=K.at_ rfl;have f1:=K.frozen 1;have aD:decide ((l.length:Int)<(n:Int))=true:=decide_eq_true (by omega);have K2:Bk (w.setCell ⟨g,1,none⟩ (.int .i64 10)) g 124 [.slice A l.length c,.int .i64 10]:=K.set_ 1 _;have c2:(w.setCell ⟨g,1,none⟩ (.int .i64 10)).cell? ⟨g,1,none⟩=some (.int .i64 10):=K2.at_ rfl;have G:=Gw w g 1 (.int .i64 10);have H:Lp (w.setCell ⟨g,1,none⟩ (.int .i64 10)) g l 10:=⟨_,K2,hy.grown G (Nat.le_of_lt K.lt)⟩;go_enter Tryz.func88,Tryz.ntmps88;go_wp2_with fail;go_ret;exact ⟨rfl,H,G⟩
theorem B7k (n:Nat) (hn:n≤l.length) (h:Lp w g l 0) :
 Calls Tryz.prog 88 #[.pointer (some ⟨g,0,none⟩),.int .i64 (n:Int)] w fun e w'=>∃v,e=.returned v∧By w' 0 g v (l.take n)∧Lp w' g (l.drop n) 0∧w.grownBy w' (some g):=by
 obtain⟨v,K,hy⟩:=h;obtain⟨A,c,rfl,aC,aD,aE⟩:=hy.open_;have c0:w.cell? ⟨g,0,none⟩=some (.slice A l.length c):=K.at_ rfl;have c1:w.cell? ⟨g,1,none⟩=some (.int .i64 0):=K.at_ rfl;have f0:=K.frozen 0;have aF:decide ((l.length:Int)<(n:Int))=false:=decide_eq_false (by omega);have aB:¬ (l.length:Int)<(n:Int):=by omega
 have aG:0≤(n:Int):=by omega
 have aH:(n:Int)≤(l.length:Int):=by omega
 have aI:(n:Int)≤(c:Int):=by omega
 have hd:=hy.drops (k:=n) hn;have ht:=hy.takes (k:=n) hn;have aJ:(l.drop n).length=l.length-n:=by simp
 have aA:∀u,By w 0 g u (l.drop n)→By (w.setCell ⟨g,0,none⟩ u) 0 g (.slice A n c) (l.take n)∧Lp (w.setCell ⟨g,0,none⟩ u) g (l.drop n) 0∧w.grownBy (w.setCell ⟨g,0,none⟩ u) (some g):=fun u hu=>⟨ht.grown (Gw _ _ _ _) (Nat.le_of_lt K.lt),⟨u,K.set_ 0 u,hu.grown (Gw _ _ _ _) (Nat.le_of_lt K.lt)⟩,Gw _ _ _ _⟩
 by_cases hcn:c=n
 ·rw[if_pos hcn]at hd;subst hcn;simp only[Nat.sub_self,show l.length-c=0 by omega]at hd;go_enter Tryz.func88,Tryz.ntmps88;go_wp2_with fail;go_ret;exact ⟨_,rfl,aA _ hd⟩
 ·rw[if_neg hcn]at hd;go_enter Tryz.func88,Tryz.ntmps88;go_wp2_with fail;go_ret;exact ⟨_,rfl,aA _ hd⟩
theorem Dd (bad:Int) (b:Bool) (h:Lp w g l bad) :
 Calls Tryz.prog 90 #[.pointer (some ⟨g,0,none⟩),.bool b] w fun e w'=>e=.returned (.tuple #[])∧Lp w' g l (A3d b bad)∧w.grownBy w' (some g):=by
 obtain⟨v,K,hy⟩:=h;have c1:w.cell? ⟨g,1,none⟩=some (.int .i64 bad):=K.at_ rfl;have f1:=K.frozen 1;cases b with
 | false=>
  go_enter Tryz.func90,Tryz.ntmps90;go_wp2_with fail;refine bodyPost_end (results_none rfl _ _ _) rfl ?_;exact ⟨rfl,⟨v,K,hy⟩,World.grownBy.refl w _⟩
 | true=>
  by_cases hb:bad=0
  ·subst hb;go_enter Tryz.func90,Tryz.ntmps90;go_wp2_with fail;refine bodyPost_end (results_none rfl _ _ _) rfl ?_;exact ⟨rfl,⟨v,K.set_ 1 _,hy.grown (Gw _ _ _ _) (Nat.le_of_lt K.lt)⟩,Gw _ _ _ _⟩
  ·have aA:(bad==0)=false:=beq_eq_false_iff_ne.2 hb;go_enter Tryz.func90,Tryz.ntmps90;go_wp2_with fail;refine bodyPost_end (results_none rfl _ _ _) rfl ?_;have e:A3d true bad=bad:=by simp[A3d,hb]
   rw[e];exact ⟨rfl,⟨v,K,hy⟩,World.grownBy.refl w _⟩
theorem A3z (bad bad':Int) (hbad:(bad≠0∧bad'=bad)∨(bad=0∧l.length<32∧bad'=10)) (h:Lp w g l bad) :
 Calls Tryz.prog 89 #[.pointer (some ⟨g,0,none⟩)] w fun e w'=>e=.returned (A8 (z8 32))∧Lp w' g l bad'∧w.grownBy w' (some g):=by
 obtain⟨W0,aA⟩:∃x,x=(w.alloc (Obj.cells (c8 (z8 32)).toArray 23)).alloc (Obj.cells (c8 (z8 32)).toArray 23):=⟨_,rfl⟩;have B0:Below w.heap.size w W0:=by rw[aA];exact ((Below.refl _ _).alloc (Nat.le_refl _) _).alloc (by simp) _
 have R0:Bk W0 w.heap.size 23 (c8 (z8 32)):=by rw[aA];exact (Bk.new w _ _).alloc _
 have H0:Bk W0 (w.heap.size+1) 23 (c8 (z8 32)):=by rw[aA];simpa using Bk.new (w.alloc (Obj.cells (c8 (z8 32)).toArray 23)) 23 (c8 (z8 32))
 have zg:=h.lt;have hr:=h.below B0 zg;have aB:Calls Tryz.prog 88 #[.pointer (some ⟨g,0,none⟩),.int .i64 ((32:Nat):Int)] W0.drew fun e w'=>e=.returned (.slice none 0 0)∧Lp w' g l bad'∧W0.drew.grownBy w' (some g):=by
  rcases hbad with ⟨hb,rfl⟩ | ⟨rfl,hl,rfl⟩
  ·exact (B2e g l W0.drew bad' hb 32 hr).mono fun e w' ⟨h1,h2⟩=>⟨h1,by rw[h2];exact hr,by rw[h2];exact World.grownBy.refl _ _⟩
  ·exact A0h g l W0.drew 32 hl (by omega) hr
 clear hbad;go_enter Tryz.func89,Tryz.ntmps89;go_wp2_with fail;rw[←aA];clear aA;have aD:Below w.heap.size w W0.drew:=B0.drew;have z0:W0.drew.heap.size=W0.heap.size:=rfl;refine F2 (fun W=>True) (by kernel_rfl) ?_;refine C6 (A:=?A1) [0,1] (by kernel_rfl) (by kernel_rfl) rfl (by kernel_rfl) (by kernel_rfl) trivial (h:=fun W hW=>?h1) (hr:=?r1);case h1=>
  simp only[pick,List.getElem?_cons_zero,List.getElem?_cons_succ];repeat (go_big_quiet_step (fail))
  refine wpQuiet_nil ?_;rfl
 case r1=>
  refine C4 2 (by kernel_rfl) (by rfl) (by rfl) (fun Q' hQ'=>?_);dsimp only[E4];go_wp2_with fail;refine aB.mono ?_;rintro e w1 ⟨rfl,aE,aC⟩;have H1:=H0.drew.grown (w':=w1) (row:=some g) aC (fun e=>by injection e with e;have:=H0.lt;omega);have R1:=R0.drew.grown (w':=w1) (row:=some g) aC (fun e=>by injection e with e;omega);go_wp2_with fail;refine hQ' _ _ trivial ?_;clear hQ';refine C4 3 (by kernel_rfl) (by rfl) (by rfl) (fun Q' hQ'=>?_);dsimp only[E4];have aF:∀ty,(Builtin.copy_ #[45,45] ty #[.slice (some ⟨w.heap.size+1,0,none⟩) 32 32,.slice none 0 0]).run Tryz.prog w1=.ok (goInt 0) w1:=fun ty=>run_copy_none w1 _ _ ty 5 _ _ _ _ _ _ Tryz.underlying45 (by kernel_rfl) (by decide);go_wp2_with fail;refine hQ' _ _ trivial ?_;clear hQ' aF;refine I9 (by kernel_rfl) ?_;have aG:E5 w1 ⟨w.heap.size+1,0,none⟩ 32=some (c8 (z8 32)):=by have:=H1.rows;rwa [H6,U6]at this
  have aH:E8 w1 ⟨w.heap.size,0,none⟩ 32=true:=R1.can (by simp);go_wp2_with fail;refine bodyPost_ret (E9 rfl _ _ _ _ _ _ rfl (R1.puts (vs:=c8 (z8 32)) (by simp)) Tryz.underlying23 rfl (by simp[N6])) rfl ⟨rfl,aE.putFar zg _,?_⟩;exact Kv ((Z2 aD g).trans aC) (Nat.le_refl _) _ _
theorem C9z (hl:32≤l.length) (h:Lp w g l 0) :
 Calls Tryz.prog 89 #[.pointer (some ⟨g,0,none⟩)] w fun e w'=>e=.returned (A8 (l.take 32))∧Lp w' g (l.drop 32) 0∧w.grownBy w' (some g):=by
 obtain⟨W0,aB⟩:∃x,x=(w.alloc (Obj.cells (c8 (z8 32)).toArray 23)).alloc (Obj.cells (c8 (z8 32)).toArray 23):=⟨_,rfl⟩;have B0:Below w.heap.size w W0:=by rw[aB];exact ((Below.refl _ _).alloc (Nat.le_refl _) _).alloc (by simp) _
 have R0:Bk W0 w.heap.size 23 (c8 (z8 32)):=by rw[aB];exact (Bk.new w _ _).alloc _
 have H0:Bk W0 (w.heap.size+1) 23 (c8 (z8 32)):=by rw[aB];simpa using Bk.new (w.alloc (Obj.cells (c8 (z8 32)).toArray 23)) 23 (c8 (z8 32))
 have zg:=h.lt;have hr:=h.below B0 zg;have aC:=B7k g l W0.drew 32 hl hr;have aA:(l.take 32).length=32:=by simp;omega
 generalize hx:l.take 32=x at *;clear hx;generalize l.drop 32=rest at *;go_enter Tryz.func89,Tryz.ntmps89;go_wp2_with fail;rw[←aB];clear aB;have aF:Below w.heap.size w W0.drew:=B0.drew;have z0:W0.drew.heap.size=W0.heap.size:=rfl;refine F2 (fun W=>True) (by kernel_rfl) ?_;refine C6 (A:=?A1) [0,1] (by kernel_rfl) (by kernel_rfl) rfl (by kernel_rfl) (by kernel_rfl) trivial (h:=fun W hW=>?h1) (hr:=?r1);case h1=>
  simp only[pick,List.getElem?_cons_zero,List.getElem?_cons_succ];repeat (go_big_quiet_step (fail))
  refine wpQuiet_nil ?_;rfl
 case r1=>
  refine C4 2 (by kernel_rfl) (by rfl) (by rfl) (fun Q' hQ'=>?_);dsimp only[E4];go_wp2_with fail;refine aC.mono ?_;rintro e w1 ⟨u,rfl,hu,aG,aE⟩;have H1:=H0.drew.grown (w':=w1) (row:=some g) aE (fun e=>by injection e with e;have:=H0.lt;omega);have R1:=R0.drew.grown (w':=w1) (row:=some g) aE (fun e=>by injection e with e;omega);go_wp2_with fail;refine hQ' _ _ trivial ?_;clear hQ';refine C4 3 (by kernel_rfl) (by rfl) (by rfl) (fun Q' hQ'=>?_);dsimp only[E4];obtain⟨gu,ou,cu,rfl,aL,aH,_,aM,aD⟩:=hu.row (by omega);rw[aA];have aI:∀ty,(Builtin.copy_ #[45,45] ty #[.slice (some ⟨w.heap.size+1,0,none⟩) 32 32,.slice (some ⟨gu,ou,none⟩) 32 cu]).run Tryz.prog w1=.ok (goInt 32) (C9 w1 ⟨w.heap.size+1,0,none⟩ (c8 x)):=fun ty=>by
   have:=run_copy_cells (P:=Tryz.prog) w1 45 45 ty 5 (w.heap.size+1) 0 32 32 ⟨gu,ou,none⟩ 32 cu (c8 x) Tryz.underlying45 (by kernel_rfl) (by simp[aA]) (fun j v hj=>(Tg aD).2 j v hj) (fun j hj=>by rw[Nat.zero_add,H1.cell];simp[aA]at hj;simp[hj]) (fun j hj=>H1.frozen _) (by intro u hu;obtain⟨y,_,rfl⟩:=List.mem_map.1 hu;rfl);rw[H6,aA]at this;exact this
  go_wp2_with fail;refine hQ' _ _ trivial ?_;clear hQ' aI;refine I9 (by kernel_rfl) ?_;have H2:=H1.puts (vs:=c8 x) (by simp[aA]);have R2:=R1.putFar (p:=⟨w.heap.size+1,0,none⟩) (by simp) (c8 x);have aJ:E5 (C9 w1 ⟨w.heap.size+1,0,none⟩ (c8 x)) ⟨w.heap.size+1,0,none⟩ 32=some (c8 x):=by have:=H2.rows;rwa [H6,aA]at this
  have aK:E8 (C9 w1 ⟨w.heap.size+1,0,none⟩ (c8 x)) ⟨w.heap.size,0,none⟩ 32=true:=R2.can (by simp);go_wp2_with fail;refine bodyPost_ret (E9 rfl _ _ _ _ _ _ rfl (R2.puts (vs:=c8 x) (by simp[aA])) Tryz.underlying23 rfl (by simp[N6,aA])) rfl ⟨rfl,(aG.putFar (show g<w.heap.size+1 by omega) _).putFar zg _,?_⟩;exact Kv (Kv ((Z2 aF g).trans aE) (by omega) _ _) (Nat.le_refl _) _ _
end
end
end Go.Proofs.YtlegpkdighoflaaGreat
