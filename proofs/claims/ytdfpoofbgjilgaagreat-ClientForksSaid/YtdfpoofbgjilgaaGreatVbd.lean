/- A part of the proof of ClientForks. -/
import Derived.Laws.IdiomCopy
import Derived.Test.YtdfpoofbgjilgaaGreatVbc
set_option linter.unusedVariables false
set_option linter.unusedSimpArgs false
set_option maxRecDepth 100000
set_option maxHeartbeats 40000000
namespace Go.Proofs.YtdfpoofbgjilgaaGreat
open Go Go.RowKit Sh
section
def A3d (b:Bool) (bad:Int):Int:=if b&&(bad==0) then 13 else bad
def Jy (w:World) (g:Nat) (l:List UInt8) (bad:Int):Prop:=∃v,Bk w g 247 [v,.int .i64 bad]∧By w 0 g v l
theorem Jy.lt {w:World} {g:Nat} {l:List UInt8} {bad:Int} (h:Jy w g l bad):g<w.heap.size:=let ⟨_,h1,_⟩:=h;h1.lt
theorem By.grown {w w':World} {lo g:Nat} {v:Value} {l:List UInt8} (h:By w lo g v l) (hg:w.grownBy w' (some g)) (hl:g≤w.heap.size):By w' lo g v l:=
 h.below ((Below.refl _ _).grown hg hl (fun k hk=>by injection hk with hk;omega))
theorem Jy.below {w w':World} {g B:Nat} {l:List UInt8} {bad:Int} (h:Jy w g l bad) (hb:Below B w w') (hB:g<B):Jy w' g l bad:=
 let ⟨v,h1,h2⟩:=h;⟨v,h1.below hb hB,h2.below (hb.mono (by omega))⟩
theorem Q0 {w w':World} (hb:Below w.heap.size w w') (g:Nat):w.grownBy w' (some g):=⟨hb.os,hb.tape,hb.output,hb.size,fun k hk _=>hb.block k hk⟩
theorem M6 (w:World) (g o:Nat) (u:Value):w.grownBy (w.setCell ⟨g,o,none⟩ u) (some g):=⟨by simp[World.setCell],by simp[World.setCell],by simp[World.setCell],by simp[World.setCell],fun k hk hne=>Below.heap_setCell w _ u k (fun e=>hne (by rw[e]))⟩
theorem O8 {w W:World} {g:Nat} (h:w.grownBy W (some g)) {b:Nat} (hb:w.heap.size≤b) (o:Nat) (vs:List Value):w.grownBy (C4 W ⟨b,o,none⟩ vs) (some g):=by
 have h2:=C0 (a:=⟨b,o,none⟩) (Below.refl 0 W) (Nat.zero_le _) vs;exact ⟨h2.os.trans h.os,h2.tape.trans h.tape,h2.output.trans h.output,Nat.le_trans h.size h2.size,fun k hk hne=>(T7 _ _ _ _ _ (show k≠b by omega)).trans (h.block k hk hne)⟩
theorem Jy.putFar {w:World} {g:Nat} {l:List UInt8} {bad:Int} (h:Jy w g l bad) {a:Addr} (ha:g<a.block) (vs:List Value):Jy (C4 w a vs) g l bad:=
 let ⟨v,h1,h2⟩:=h;⟨v,h1.putFar (by omega) vs,h2.below (C0 (Below.refl _ _) (by omega) vs)⟩
section
variable (g : Nat) (l : List UInt8) (w : World)
theorem B0s (bad:Int) (hb:bad≠0) (n:Nat) (h:Jy w g l bad) :
 Calls Tryz.prog 191 #[.pointer (some ⟨g,0,none⟩),.int .i64 (n:Int)] w fun e w'=>e=.returned (.slice none 0 0)∧w'=w:=by
 obtain⟨v,K,hy⟩:=h;have c1:w.cell? ⟨g,1,none⟩=some (.int .i64 bad):=K.at_ rfl;have aA:(bad==0)=false:=beq_eq_false_iff_ne.2 hb;go_enter Tryz.func191,Tryz.ntmps191;go_wp2_with fail;go_ret;exact ⟨rfl,rfl⟩
theorem Yw (n:Nat) (hn:l.length<n) (hn2:n≤1099511627776) (h:Jy w g l 0) :
 Calls Tryz.prog 191 #[.pointer (some ⟨g,0,none⟩),.int .i64 (n:Int)] w fun e w'=>e=.returned (.slice none 0 0)∧Jy w' g l 10∧w.grownBy w' (some g):=by
 obtain⟨v,K,hy⟩:=h;obtain⟨A,c,rfl,aA,aB,aC⟩:=hy.open_;have c0:w.cell? ⟨g,0,none⟩=some (.slice A l.length c):=K.at_ rfl;have c1:w.cell? ⟨g,1,none⟩=some (.int .i64 0):=K.at_ rfl;have f1:=K.frozen 1;have aD:decide ((l.length:Int)<(n:Int))=true:=decide_eq_true (by omega);have K2:Bk (w.setCell ⟨g,1,none⟩ (.int .i64 10)) g 247 [.slice A l.length c,.int .i64 10]:=K.set_ 1 _;have c2:(w.setCell ⟨g,1,none⟩ (.int .i64 10)).cell? ⟨g,1,none⟩=some (.int .i64 10):=K2.at_ rfl;have G:=M6 w g 1 (.int .i64 10);have H:Jy (w.setCell ⟨g,1,none⟩ (.int .i64 10)) g l 10:=⟨_,K2,hy.grown G (Nat.le_of_lt K.lt)⟩;go_enter Tryz.func191,Tryz.ntmps191;go_wp2_with fail;go_ret;exact ⟨rfl,H,G⟩
theorem B8x (n:Nat) (hn:n≤l.length) (h:Jy w g l 0) :
 Calls Tryz.prog 191 #[.pointer (some ⟨g,0,none⟩),.int .i64 (n:Int)] w fun e w'=>∃v,e=.returned v∧By w' 0 g v (l.take n)∧Jy w' g (l.drop n) 0∧w.grownBy w' (some g):=by
 obtain⟨v,K,hy⟩:=h;obtain⟨A,c,rfl,aC,aD,aE⟩:=hy.open_;have c0:w.cell? ⟨g,0,none⟩=some (.slice A l.length c):=K.at_ rfl;have c1:w.cell? ⟨g,1,none⟩=some (.int .i64 0):=K.at_ rfl;have f0:=K.frozen 0;have aF:decide ((l.length:Int)<(n:Int))=false:=decide_eq_false (by omega);have aB:¬ (l.length:Int)<(n:Int):=by omega
 have aG:0≤(n:Int):=by omega
 have aH:(n:Int)≤(l.length:Int):=by omega
 have aI:(n:Int)≤(c:Int):=by omega
 have hd:=hy.drops (k:=n) hn;have ht:=hy.takes (k:=n) hn;have aJ:(l.drop n).length=l.length-n:=by simp
 have aA:∀u,By w 0 g u (l.drop n)→By (w.setCell ⟨g,0,none⟩ u) 0 g (.slice A n c) (l.take n)∧Jy (w.setCell ⟨g,0,none⟩ u) g (l.drop n) 0∧w.grownBy (w.setCell ⟨g,0,none⟩ u) (some g):=fun u hu=>⟨ht.grown (M6 _ _ _ _) (Nat.le_of_lt K.lt),⟨u,K.set_ 0 u,hu.grown (M6 _ _ _ _) (Nat.le_of_lt K.lt)⟩,M6 _ _ _ _⟩
 by_cases hcn:c=n
 ·rw[if_pos hcn]at hd;subst hcn;simp only[Nat.sub_self,show l.length-c=0 by omega]at hd;go_enter Tryz.func191,Tryz.ntmps191;go_wp2_with fail;go_ret;exact ⟨_,rfl,aA _ hd⟩
 ·rw[if_neg hcn]at hd;go_enter Tryz.func191,Tryz.ntmps191;go_wp2_with fail;go_ret;exact ⟨_,rfl,aA _ hd⟩
theorem Aj (bad:Int) (b:Bool) (h:Jy w g l bad) :
 Calls Tryz.prog 193 #[.pointer (some ⟨g,0,none⟩),.bool b] w fun e w'=>e=.returned (.tuple #[])∧Jy w' g l (A3d b bad)∧w.grownBy w' (some g):=by
 obtain⟨v,K,hy⟩:=h;have c1:w.cell? ⟨g,1,none⟩=some (.int .i64 bad):=K.at_ rfl;have f1:=K.frozen 1;cases b with
 | false=>
  go_enter Tryz.func193,Tryz.ntmps193;go_wp2_with fail;refine bodyPost_end (results_none rfl _ _ _) rfl ?_;exact ⟨rfl,⟨v,K,hy⟩,World.grownBy.refl w _⟩
 | true=>
  by_cases hb:bad=0
  ·subst hb;go_enter Tryz.func193,Tryz.ntmps193;go_wp2_with fail;refine bodyPost_end (results_none rfl _ _ _) rfl ?_;exact ⟨rfl,⟨v,K.set_ 1 _,hy.grown (M6 _ _ _ _) (Nat.le_of_lt K.lt)⟩,M6 _ _ _ _⟩
  ·have aA:(bad==0)=false:=beq_eq_false_iff_ne.2 hb;go_enter Tryz.func193,Tryz.ntmps193;go_wp2_with fail;refine bodyPost_end (results_none rfl _ _ _) rfl ?_;have e:A3d true bad=bad:=by simp[A3d,hb]
   rw[e];exact ⟨rfl,⟨v,K,hy⟩,World.grownBy.refl w _⟩
theorem A4o (bad bad':Int) (hbad:(bad≠0∧bad'=bad)∨(bad=0∧l.length<32∧bad'=10)) (h:Jy w g l bad) :
 Calls Tryz.prog 192 #[.pointer (some ⟨g,0,none⟩)] w fun e w'=>e=.returned (A8 (z8 32))∧Jy w' g l bad'∧w.grownBy w' (some g):=by
 obtain⟨W0,aA⟩:∃x,x=(w.alloc (Obj.cells (c8 (z8 32)).toArray 35)).alloc (Obj.cells (c8 (z8 32)).toArray 35):=⟨_,rfl⟩;have B0:Below w.heap.size w W0:=by rw[aA];exact ((Below.refl _ _).alloc (Nat.le_refl _) _).alloc (by simp) _
 have R0:Bk W0 w.heap.size 35 (c8 (z8 32)):=by rw[aA];exact (Bk.new w _ _).alloc _
 have H0:Bk W0 (w.heap.size+1) 35 (c8 (z8 32)):=by rw[aA];simpa using Bk.new (w.alloc (Obj.cells (c8 (z8 32)).toArray 35)) 35 (c8 (z8 32))
 have zg:=h.lt;have hr:=h.below B0 zg;have aB:Calls Tryz.prog 191 #[.pointer (some ⟨g,0,none⟩),.int .i64 ((32:Nat):Int)] W0.drew fun e w'=>e=.returned (.slice none 0 0)∧Jy w' g l bad'∧W0.drew.grownBy w' (some g):=by
  rcases hbad with ⟨hb,rfl⟩ | ⟨rfl,hl,rfl⟩
  ·exact (B0s g l W0.drew bad' hb 32 hr).mono fun e w' ⟨h1,h2⟩=>⟨h1,by rw[h2];exact hr,by rw[h2];exact World.grownBy.refl _ _⟩
  ·exact Yw g l W0.drew 32 hl (by omega) hr
 clear hbad;go_enter Tryz.func192,Tryz.ntmps192;go_wp2_with fail;rw[←aA];clear aA;have aD:Below w.heap.size w W0.drew:=B0.drew;have z0:W0.drew.heap.size=W0.heap.size:=rfl;refine E3 (fun W=>True) (by kernel_rfl) ?_;refine C5 (A:=?A1) [0,1] (by kernel_rfl) (by kernel_rfl) rfl (by kernel_rfl) (by kernel_rfl) trivial (h:=fun W hW=>?h1) (hr:=?r1);case h1=>
  simp only[pick,List.getElem?_cons_zero,List.getElem?_cons_succ];repeat (go_big_quiet_step (fail))
  refine wpQuiet_nil ?_;rfl
 case r1=>
  refine C3 2 (by kernel_rfl) (by rfl) (by rfl) (fun Q' hQ'=>?_);dsimp only[E5];go_wp2_with fail;refine aB.mono ?_;rintro e w1 ⟨rfl,aE,aC⟩;have H1:=H0.drew.grown (w':=w1) (row:=some g) aC (fun e=>by injection e with e;have:=H0.lt;omega);have R1:=R0.drew.grown (w':=w1) (row:=some g) aC (fun e=>by injection e with e;omega);go_wp2_with fail;refine hQ' _ _ trivial ?_;clear hQ';refine C3 3 (by kernel_rfl) (by rfl) (by rfl) (fun Q' hQ'=>?_);dsimp only[E5];have aF:∀ty,(Builtin.copy_ #[29,29] ty #[.slice (some ⟨w.heap.size+1,0,none⟩) 32 32,.slice none 0 0]).run Tryz.prog w1=.ok (goInt 0) w1:=fun ty=>run_copy_none w1 _ _ ty 5 _ _ _ _ _ _ Tryz.underlying29 (by kernel_rfl) (by decide);go_wp2_with fail;refine hQ' _ _ trivial ?_;clear hQ' aF;refine F0 (by kernel_rfl) ?_;have aG:D9 w1 ⟨w.heap.size+1,0,none⟩ 32=some (c8 (z8 32)):=by have:=H1.rows;rwa [C6,I1]at this
  have aH:E7 w1 ⟨w.heap.size,0,none⟩ 32=true:=R1.can (by simp);go_wp2_with fail;refine bodyPost_ret (C7 rfl _ _ _ _ _ _ rfl (R1.puts (vs:=c8 (z8 32)) (by simp)) Tryz.underlying35 rfl (by simp[I8])) rfl ⟨rfl,aE.putFar zg _,?_⟩;exact O8 ((Q0 aD g).trans aC) (Nat.le_refl _) _ _
theorem D4r (hl:32≤l.length) (h:Jy w g l 0) :
 Calls Tryz.prog 192 #[.pointer (some ⟨g,0,none⟩)] w fun e w'=>e=.returned (A8 (l.take 32))∧Jy w' g (l.drop 32) 0∧w.grownBy w' (some g):=by
 obtain⟨W0,aB⟩:∃x,x=(w.alloc (Obj.cells (c8 (z8 32)).toArray 35)).alloc (Obj.cells (c8 (z8 32)).toArray 35):=⟨_,rfl⟩;have B0:Below w.heap.size w W0:=by rw[aB];exact ((Below.refl _ _).alloc (Nat.le_refl _) _).alloc (by simp) _
 have R0:Bk W0 w.heap.size 35 (c8 (z8 32)):=by rw[aB];exact (Bk.new w _ _).alloc _
 have H0:Bk W0 (w.heap.size+1) 35 (c8 (z8 32)):=by rw[aB];simpa using Bk.new (w.alloc (Obj.cells (c8 (z8 32)).toArray 35)) 35 (c8 (z8 32))
 have zg:=h.lt;have hr:=h.below B0 zg;have aC:=B8x g l W0.drew 32 hl hr;have aA:(l.take 32).length=32:=by simp;omega
 generalize hx:l.take 32=x at *;clear hx;generalize l.drop 32=rest at *;go_enter Tryz.func192,Tryz.ntmps192;go_wp2_with fail;rw[←aB];clear aB;have aF:Below w.heap.size w W0.drew:=B0.drew;have z0:W0.drew.heap.size=W0.heap.size:=rfl;refine E3 (fun W=>True) (by kernel_rfl) ?_;refine C5 (A:=?A1) [0,1] (by kernel_rfl) (by kernel_rfl) rfl (by kernel_rfl) (by kernel_rfl) trivial (h:=fun W hW=>?h1) (hr:=?r1);case h1=>
  simp only[pick,List.getElem?_cons_zero,List.getElem?_cons_succ];repeat (go_big_quiet_step (fail))
  refine wpQuiet_nil ?_;rfl
 case r1=>
  refine C3 2 (by kernel_rfl) (by rfl) (by rfl) (fun Q' hQ'=>?_);dsimp only[E5];go_wp2_with fail;refine aC.mono ?_;rintro e w1 ⟨u,rfl,hu,aG,aE⟩;have H1:=H0.drew.grown (w':=w1) (row:=some g) aE (fun e=>by injection e with e;have:=H0.lt;omega);have R1:=R0.drew.grown (w':=w1) (row:=some g) aE (fun e=>by injection e with e;omega);go_wp2_with fail;refine hQ' _ _ trivial ?_;clear hQ';refine C3 3 (by kernel_rfl) (by rfl) (by rfl) (fun Q' hQ'=>?_);dsimp only[E5];obtain⟨gu,ou,cu,rfl,aL,aH,_,aM,aD⟩:=hu.row (by omega);rw[aA];have aI:∀ty,(Builtin.copy_ #[29,29] ty #[.slice (some ⟨w.heap.size+1,0,none⟩) 32 32,.slice (some ⟨gu,ou,none⟩) 32 cu]).run Tryz.prog w1=.ok (goInt 32) (C4 w1 ⟨w.heap.size+1,0,none⟩ (c8 x)):=fun ty=>by
   have:=run_copy_cells (P:=Tryz.prog) w1 29 29 ty 5 (w.heap.size+1) 0 32 32 ⟨gu,ou,none⟩ 32 cu (c8 x) Tryz.underlying29 (by kernel_rfl) (by simp[aA]) (fun j v hj=>(Kd aD).2 j v hj) (fun j hj=>by rw[Nat.zero_add,H1.cell];simp[aA]at hj;simp[hj]) (fun j hj=>H1.frozen _) (by intro u hu;obtain⟨y,_,rfl⟩:=List.mem_map.1 hu;rfl);rw[C6,aA]at this;exact this
  go_wp2_with fail;refine hQ' _ _ trivial ?_;clear hQ' aI;refine F0 (by kernel_rfl) ?_;have H2:=H1.puts (vs:=c8 x) (by simp[aA]);have R2:=R1.putFar (p:=⟨w.heap.size+1,0,none⟩) (by simp) (c8 x);have aJ:D9 (C4 w1 ⟨w.heap.size+1,0,none⟩ (c8 x)) ⟨w.heap.size+1,0,none⟩ 32=some (c8 x):=by have:=H2.rows;rwa [C6,aA]at this
  have aK:E7 (C4 w1 ⟨w.heap.size+1,0,none⟩ (c8 x)) ⟨w.heap.size,0,none⟩ 32=true:=R2.can (by simp);go_wp2_with fail;refine bodyPost_ret (C7 rfl _ _ _ _ _ _ rfl (R2.puts (vs:=c8 x) (by simp[aA])) Tryz.underlying35 rfl (by simp[I8,aA])) rfl ⟨rfl,(aG.putFar (show g<w.heap.size+1 by omega) _).putFar zg _,?_⟩;exact O8 (O8 ((Q0 aF g).trans aE) (by omega) _ _) (Nat.le_refl _) _ _
end
end
abbrev RS := List UInt8 × Int
def tkL (n:Nat) (s:RS):List UInt8:=if s.2=0∧n≤s.1.length then s.1.take n else []
def tkS (n:Nat) (s:RS):RS:=if s.2=0 then (if n≤s.1.length then (s.1.drop n,0) else (s.1,10)) else s
def WRd (w:World) (g:Nat) (s:RS):Prop:=∃v,Bk w g 175 [v,.int .i64 s.2]∧By w 0 g v s.1
theorem WRd.lt {w:World} {g:Nat} {s:RS} (h:WRd w g s):g<w.heap.size:=let ⟨_,h1,_⟩:=h;h1.lt
theorem WRd.below {w w':World} {g B:Nat} {s:RS} (h:WRd w g s) (hb:Below B w w') (hB:g<B):WRd w' g s:=
 let ⟨v,h1,h2⟩:=h;⟨v,h1.below hb hB,h2.below (hb.mono (by omega))⟩
theorem WRd.up {w w':World} {g:Nat} {s:RS} (h:WRd w g s) (hb:Below w.heap.size w w'):WRd w' g s:=h.below hb h.lt
theorem WRd.putFar {w:World} {g:Nat} {s:RS} (h:WRd w g s) {a:Addr} (ha:g<a.block) (vs:List Value):WRd (C4 w a vs) g s:=
 let ⟨v,h1,h2⟩:=h;⟨v,h1.putFar (by omega) vs,h2.below (C0 (Below.refl _ _) (by omega) vs)⟩
def E8m (n:Nat) (l:List UInt8) (v:Value):Prop:=0<n→l=[]→v=.slice none 0 0
structure TkR (w w' : World) (g : Nat) (s : RS) : Prop where
 rd:WRd w' g s
 gr:w.grownBy w' (some g)
theorem TkR.refl {w:World} {g:Nat} {s:RS} (h:WRd w g s):TkR w w g s:=⟨h,World.grownBy.refl w _⟩
theorem A4k (g:Nat) (s:RS) (n:Nat) (hn:n≤1099511627776) (w:World) (h:WRd w g s) :
 Calls Tryz.prog 84 #[.pointer (some ⟨g,0,none⟩),.int .i64 (n:Int)] w fun e w'=>∃v,e=.returned v∧By w' 0 g v (tkL n s)∧TkR w w' g (tkS n s)∧E8m n (tkL n s) v:=by
 obtain⟨l,aA⟩:=s;obtain⟨v,K,hy⟩:=h;simp only at K hy;have zg:=Nat.le_of_lt K.lt;have c1:w.cell? ⟨g,1,none⟩=some (.int .i64 aA):=K.at_ rfl;have aB:∀w':World,By w' 0 g (.slice none 0 0) []:=fun w'=>⟨none,0,rfl,Nat.le_refl _,by decide,.inl rfl⟩;by_cases hb:aA=0
 ·subst hb;obtain⟨A,c,rfl,aG,aH,aI⟩:=hy.open_;have c0:w.cell? ⟨g,0,none⟩=some (.slice A l.length c):=K.at_ rfl;by_cases hl:l.length<n
  ·have aD:decide ((l.length:Int)<(n:Int))=true:=decide_eq_true (by omega);have f1:=K.frozen 1;have e1:tkL n (l,0)=[]:=by unfold tkL;rw[if_neg (by simp;omega)]
   have e2:tkS n (l,0)=(l,10):=by unfold tkS;rw[if_pos rfl,if_neg (by simp;omega)]
   rw[e1,e2];go_enter Tryz.func84,Tryz.ntmps84;go_wp2_with fail;go_ret;exact ⟨_,rfl,aB _,⟨⟨_,K.set_ 1 _,hy.grown (M6 w g 1 _) zg⟩,M6 w g 1 _⟩,fun _ _=>rfl⟩
  ·have aD:decide ((l.length:Int)<(n:Int))=false:=decide_eq_false (by omega);have f0:=K.frozen 0;have e1:tkL n (l,0)=l.take n:=by unfold tkL;rw[if_pos ⟨rfl,by simp;omega⟩]
   have e2:tkS n (l,0)=(l.drop n,0):=by unfold tkS;rw[if_pos rfl,if_pos (by simp;omega)]
   rw[e1,e2];have aJ:0≤(n:Int):=by omega
   have aK:(n:Int)≤(l.length:Int):=by omega
   have aL:(n:Int)≤(c:Int):=by omega
   have aE:¬ (l.length:Int)<(n:Int):=by omega
   have hd:=hy.drops (k:=n) (by omega);have ht:=hy.takes (k:=n) (by omega);have aM:(l.drop n).length=l.length-n:=by simp
   have q7:(l.take n).length=n:=by rw[List.length_take];omega
   have aF:By w 0 g (.slice A n n) (l.take n):=by obtain⟨A',c',q1,q2,q3,q4⟩:=ht;injection q1 with q1 q5 q6;subst q1;exact ⟨A,n,by rw[List.length_map,q7],by rw[List.length_map];omega,by omega,q4⟩
   have aC:∀u,By w 0 g u (l.drop n)→By (w.setCell ⟨g,0,none⟩ u) 0 g (.slice A n n) (l.take n)∧TkR w (w.setCell ⟨g,0,none⟩ u) g (l.drop n,0)∧E8m n (l.take n) (.slice A n n):=fun u hu=>⟨aF.grown (M6 w g 0 u) zg,⟨⟨u,K.set_ 0 u,hu.grown (M6 w g 0 u) zg⟩,M6 w g 0 u⟩,fun h0 h1=>(by rw[h1]at q7;simp at q7;omega)⟩
   by_cases hcn:c=n
   ·rw[if_pos hcn]at hd;subst hcn;simp only[Nat.sub_self,show l.length-c=0 by omega]at hd;go_enter Tryz.func84,Tryz.ntmps84;go_wp2_with fail;go_ret;exact ⟨_,rfl,aC _ hd⟩
   ·rw[if_neg hcn]at hd;go_enter Tryz.func84,Tryz.ntmps84;go_wp2_with fail;go_ret;exact ⟨_,rfl,aC _ hd⟩
 ·have aN:(aA==0)=false:=beq_eq_false_iff_ne.2 hb;have e1:tkL n (l,aA)=[]:=by unfold tkL;rw[if_neg (by simp[hb])]
  have e2:tkS n (l,aA)=(l,aA):=by unfold tkS;rw[if_neg (by simp[hb])]
  rw[e1,e2];go_enter Tryz.func84,Tryz.ntmps84;go_wp2_with fail;go_ret;exact ⟨_,rfl,aB _,TkR.refl ⟨v,K,hy⟩,fun _ _=>rfl⟩
def w8L (l:List UInt8):UInt64:=l.foldl (fun v x=>(v <<< 8) ||| x.toUInt64) 0
theorem C5z {l:List UInt8} {i:Nat} {x:UInt8} (hx:l[i]?=some x):w8L (l.take (i+1))=(w8L (l.take i) <<< 8) ||| x.toUInt64:=by
 unfold w8L;rw[List.take_add_one,hx,List.foldl_append];rfl
theorem D0s (g:Nat) (s:RS) (w:World) (h:WRd w g s) :
 Calls Tryz.prog 34 #[.pointer (some ⟨g,0,none⟩)] w fun e w'=>e=.returned (.int .u64 (C8 (w8L (tkL 8 s))))∧TkR w w' g (tkS 8 s):=by
 have hc:=A4k g s 8 (by decide) w h;rw[show ((8:Nat):Int)=8 from rfl]at hc;clear h;have aB:(tkL 8 s).length≤8:=by
  unfold tkL;split
  ·rw[List.length_take];omega
  ·exact Nat.zero_le _
 generalize tkL 8 s=l at *;generalize tkS 8 s=s' at *;go_enter Tryz.func34,Tryz.ntmps34;go_wp2_with fail;refine hc.mono ?_;rintro e w1 ⟨v,rfl,hv,hT,-⟩;obtain⟨A,c,rfl,aC,aD,aG⟩:=hv.open_;obtain⟨n,hn⟩:∃n,n=l.length:=⟨_,rfl⟩;rw[←hn]at hv aB ⊢;have HN:=Lib.hid hn;clear hn aC aD;go_wp2_with fail;go_loopw [3,9] (fun a x wr=>∃i,i≤n∧x=.int .i64 (i:Int)∧a=.int .u64 (C8 (w8L (l.take i)))∧wr=w1) (fun _ x _=>n-(intOf x).toNat)
 case atStart=>exact ⟨0,by omega,rfl,rfl,rfl⟩
 case round=>
  obtain⟨i,hi,rfl,rfl,rfl⟩:=hrel;by_cases hlt:i<n
  ·have hd:decide ((i:Int)<(n:Int))=true:=decide_eq_true (by omega);have aH:decide (i<n)=true:=decide_eq_true hlt;obtain⟨x,hx⟩:∃x,l[i]?=some x:=⟨_,List.getElem?_eq_getElem (by rw[←HN.out];exact hlt)⟩;obtain⟨g2,o2,c2,hA,-,-,-,-,hrow⟩:=hv.row (by rw[←HN.out];omega);have aE:A=some ⟨g2,o2,none⟩:=by injection hA
   subst aE;have aA:wr.cell? ⟨g2,o2+i,none⟩=some (.int .u8 (n8 x)):=(Z0.1 hrow).2 i (v8 x) (by simp[c8,hx]);have aF:=C5z hx;clear hx hrow;go_wp2_with fail;go_roundw;case rel=>exact ⟨i+1,by omega,by go_num,by simp[aF],by trivial⟩
   case measure=>simp[intOf];omega
  ·obtain rfl:i=n:=by omega
   have hd:decide ((i:Int)<(i:Int))=false:=decide_eq_false (by omega);go_wp2_with fail;go_ret;have e:l.take i=l:=List.take_of_length_le (by rw[←HN.out];exact Nat.le_refl _);exact ⟨by rw[e];rfl,hT⟩
def rdn (s:RS):Int:=if s.2=0∧0<s.1.length then 11 else s.2
theorem C2u (g:Nat) (s:RS) (w:World) (h:WRd w g s) :
 Calls Tryz.prog 36 #[.pointer (some ⟨g,0,none⟩)] w fun e w'=>e=.returned (.int .i64 (rdn s))∧w'=w:=by
 obtain⟨l,aA⟩:=s;obtain⟨v,K,hy⟩:=h;obtain⟨A,c,rfl,-,-,-⟩:=hy.open_;simp only at K;have c0:w.cell? ⟨g,0,none⟩=some (.slice A l.length c):=K.at_ rfl;have c1:w.cell? ⟨g,1,none⟩=some (.int .i64 aA):=K.at_ rfl;by_cases hb:aA=0
 ·subst hb;rcases Nat.eq_zero_or_pos l.length with hz | hp
  ·have e:rdn (l,0)=0:=by unfold rdn;rw[if_neg (fun h=>by have h2:=h.2;simp only at h2;omega)]
   rw[e];have hd:decide ((0:Int)<(l.length:Int))=false:=decide_eq_false (by omega);have aB:decide (0<l.length)=false:=decide_eq_false (by omega);clear hz;go_enter Tryz.func36,Tryz.ntmps36;go_wp2_with fail;go_ret;exact ⟨rfl,rfl⟩
  ·have e:rdn (l,0)=11:=by unfold rdn;rw[if_pos ⟨rfl,hp⟩]
   rw[e];have hd:decide ((0:Int)<(l.length:Int))=true:=decide_eq_true (by omega);have aB:decide (0<l.length)=true:=decide_eq_true (by omega);go_enter Tryz.func36,Tryz.ntmps36;go_wp2_with fail;go_ret;exact ⟨rfl,rfl⟩
 ·have e:rdn (l,aA)=aA:=by unfold rdn;rw[if_neg (by simp[hb])]
  have aC:(aA==0)=false:=beq_eq_false_iff_ne.2 hb;rw[e];go_enter Tryz.func36,Tryz.ntmps36;go_wp2_with fail;go_ret;exact ⟨rfl,rfl⟩
theorem B5m (v:Value) (l:List UInt8) (w:World) (hv:By w 0 w.heap.size v l) (hn:l.length≤1099511627776) :
 Calls Tryz.prog 83 #[v] w fun e w'=>∃u,e=.returned u∧By w' w.heap.size w'.heap.size u l∧KdT w' u.ownBlock 5∧Below w.heap.size w w':=by
 rcases Nat.eq_zero_or_pos l.length with hz | hp
 ·obtain rfl:=List.eq_nil_of_length_eq_zero hz;obtain⟨A,c,rfl,hc1,hc2,-⟩:=hv.open_;have aE:∀(w:World) (a:Option Addr) (n c n' c':Nat),(binOp .eql 29 (.slice a n c) (.slice none n' c')).run Tryz.prog w=.ok (.bool a.isNone) w:=fun w a n c n' c'=>Lib.run_eql_slice_nil w _ _ a n c n' c' Tryz.underlying29;have aA:∀w':World,By w' w.heap.size w'.heap.size (.slice none 0 0) []:=fun w'=>⟨none,0,rfl,Nat.le_refl _,by decide,.inl rfl⟩;cases A with
  | none=>
   go_enter Tryz.func83,Tryz.ntmps83;go_wp2_with fail;go_ret;exact ⟨_,rfl,aA _,fun g e=>(by cases e),Below.refl _ _⟩
  | some a=>
   have aC:=Lib.hid (hv.alloc (Nat.le_refl _) (.cells #[] 5));have ho:Hid (I5 (w.alloc (.cells #[] 5)) w.heap.size (.slice (some ⟨w.heap.size,0,none⟩) 0 0) []):=Lib.hid (World.ownsRow_made w #[] 0 (Nat.le_refl _) (Nat.zero_le _) (by simp));clear hv;go_enter Tryz.func83,Tryz.ntmps83;go_wp2_with (at_builtin;refine Ud _ w.heap.size _ [] rfl _ _ rfl rfl ho.out _ rfl [] 0 _ aC.out (by simp) (by simp) ?_;intro A2 c2 w2 aF aG aB aD aH aI);go_ret;exact ⟨_,rfl,by simpa using aB.by_,Xy aB,((Below.refl _ _).alloc (Nat.le_refl _) _).trans aD⟩
 ·refine (A0o v l w hv hp hn).mono ?_;rintro e w' ⟨u,rfl,ho,hb⟩;exact ⟨u,rfl,ho.by_,Xy ho,hb⟩
theorem C4e (v:Value) (l:List UInt8) (w:World) (hv:By w 0 w.heap.size v l) (hn:l.length≤1099511627776) :
 Calls Tryz.prog 33 #[v] w fun e w'=>∃g,e=.returned (.pointer (some ⟨g,0,none⟩))∧w.heap.size≤g∧WRd w' g (l,0)∧Below w.heap.size w w':=by
 go_enter Tryz.func33,Tryz.ntmps33;go_wp2_with fail;refine (B5m v l w hv hn).mono ?_;rintro e w1 ⟨u,rfl,hu,-,b1⟩;obtain⟨A,c,rfl,hc1,hc2,-⟩:=hu.open_;go_wp2_with fail;go_ret;exact ⟨_,rfl,b1.size,⟨_,Bk.new w1 _ _,(By.less hu (Nat.zero_le _)).alloc (Nat.le_refl _) _⟩,b1.alloc b1.size _⟩
def haL (s:RS):List UInt8:=if tkL 32 s=[] then z8 32 else tkL 32 s
theorem C2j (g:Nat) (s:RS) (w:World) (h:WRd w g s) :
 Calls Tryz.prog 35 #[.pointer (some ⟨g,0,none⟩)] w fun e w'=>e=.returned (A8 (haL s))∧TkR w w' g (tkS 32 s):=by
 obtain⟨W0,aB⟩:∃x,x=(w.alloc (Obj.cells (c8 (z8 32)).toArray 35)).alloc (Obj.cells (c8 (z8 32)).toArray 35):=⟨_,rfl⟩;have B0:Below w.heap.size w W0:=by rw[aB];exact ((Below.refl _ _).alloc (Nat.le_refl _) _).alloc (by simp) _
 have R0:Bk W0 w.heap.size 35 (c8 (z8 32)):=by rw[aB];exact (Bk.new w _ _).alloc _
 have H0:Bk W0 (w.heap.size+1) 35 (c8 (z8 32)):=by rw[aB];simpa using Bk.new (w.alloc (Obj.cells (c8 (z8 32)).toArray 35)) 35 (c8 (z8 32))
 have zg:=h.lt;have hr:WRd W0.drew g s:=(h.below B0 zg).below (B:=w.heap.size) ((Below.refl _ W0).drew) zg;have aA:=A4k g s 32 (by decide) W0.drew hr;rw[show ((32:Nat):Int)=32 from rfl]at aA;unfold haL;have aI:tkL 32 s=[]∨(tkL 32 s).length=32:=by
  unfold tkL;split
  ·rename_i h1;exact .inr (by rw[List.length_take];omega)
  ·exact .inl rfl
 have hz:(z8 32).length=32:=I1 32;clear h hr;generalize tkL 32 s=x at *;generalize tkS 32 s=s' at *;obtain⟨r,aD⟩:∃r,r=(if x=[] then z8 32 else x):=⟨_,rfl⟩;rw[←aD];have HR:=Lib.hid aD;clear aD;go_enter Tryz.func35,Tryz.ntmps35;go_wp2_with fail;rw[←aB];clear aB;have aJ:Below w.heap.size w W0.drew:=B0.drew;refine E3 (fun W=>True) (by kernel_rfl) ?_;refine C5 (A:=?A1) [0,1] (by kernel_rfl) (by kernel_rfl) rfl (by kernel_rfl) (by kernel_rfl) trivial (h:=fun W hW=>?h1) (hr:=?r1);case h1=>
  simp only[pick,List.getElem?_cons_zero,List.getElem?_cons_succ];repeat (go_big_quiet_step (fail))
  refine wpQuiet_nil ?_;rfl
 refine C3 2 (by kernel_rfl) (by rfl) (by rfl) (fun Q' hQ'=>?_);dsimp only[E5];go_wp2_with fail;refine aA.mono ?_;rintro e w1 ⟨u,rfl,hu,hT,aK⟩;have H1:=H0.drew.grown (w':=w1) (row:=some g) hT.gr (fun e=>by injection e with e;have:=H0.lt;omega);have R1:=R0.drew.grown (w':=w1) (row:=some g) hT.gr (fun e=>by injection e with e;omega);have G1:=(Q0 aJ g).trans hT.gr;have aH:=hT.rd;clear hT;go_wp2_with fail;refine hQ' _ _ trivial ?_;clear hQ';refine C3 3 (by kernel_rfl) (by rfl) (by rfl) (fun Q' hQ'=>?_);dsimp only[E5];rcases aI with rfl | hlx
 ·obtain rfl:=aK (by decide) rfl;obtain rfl:r=z8 32:=by rw[HR.out,if_pos rfl]
  have aE:∀ty,(Builtin.copy_ #[29,29] ty #[.slice (some ⟨w.heap.size+1,0,none⟩) 32 32,.slice none 0 0]).run Tryz.prog w1=.ok (goInt 0) w1:=fun ty=>run_copy_none w1 _ _ ty 5 _ _ _ _ _ _ Tryz.underlying29 (by kernel_rfl) (by decide);go_wp2_with fail;refine hQ' _ _ trivial ?_;clear hQ' aE;refine F0 (by kernel_rfl) ?_;have aF:D9 w1 ⟨w.heap.size+1,0,none⟩ 32=some (c8 (z8 32)):=by have:=H1.rows;rwa [C6,I1]at this
  have aG:E7 w1 ⟨w.heap.size,0,none⟩ 32=true:=R1.can (by simp);go_wp2_with fail;refine bodyPost_ret (C7 rfl _ _ _ _ _ _ rfl (R1.puts (vs:=c8 (z8 32)) (by simp)) Tryz.underlying35 rfl (by simp[I8])) rfl ⟨rfl,?_,O8 G1 (Nat.le_refl _) _ _⟩;exact aH.putFar zg _
 ·have aL:x≠[]:=fun e=>by rw[e]at hlx;simp at hlx
  obtain rfl:x=r:=by rw[HR.out,if_neg aL]
  obtain⟨gu,ou,cu,rfl,aN,aM,_,aO,aC⟩:=hu.row (by omega);rw[hlx];have aE:∀ty,(Builtin.copy_ #[29,29] ty #[.slice (some ⟨w.heap.size+1,0,none⟩) 32 32,.slice (some ⟨gu,ou,none⟩) 32 cu]).run Tryz.prog w1=.ok (goInt 32) (C4 w1 ⟨w.heap.size+1,0,none⟩ (c8 x)):=fun ty=>by
   have:=run_copy_cells (P:=Tryz.prog) w1 29 29 ty 5 (w.heap.size+1) 0 32 32 ⟨gu,ou,none⟩ 32 cu (c8 x) Tryz.underlying29 (by kernel_rfl) (by simp[hlx]) (fun j v hj=>(Kd aC).2 j v hj) (fun j hj=>by rw[Nat.zero_add,H1.cell];simp[hlx]at hj;simp[hj]) (fun j hj=>H1.frozen _) (by intro u hu;obtain⟨y,_,rfl⟩:=List.mem_map.1 hu;rfl);rw[C6,hlx]at this;exact this
  go_wp2_with fail;refine hQ' _ _ trivial ?_;clear hQ' aE;refine F0 (by kernel_rfl) ?_;have H2:=H1.puts (vs:=c8 x) (by simp[hlx]);have R2:=R1.putFar (p:=⟨w.heap.size+1,0,none⟩) (by simp) (c8 x);have aF:D9 (C4 w1 ⟨w.heap.size+1,0,none⟩ (c8 x)) ⟨w.heap.size+1,0,none⟩ 32=some (c8 x):=by have:=H2.rows;rwa [C6,hlx]at this
  have aG:E7 (C4 w1 ⟨w.heap.size+1,0,none⟩ (c8 x)) ⟨w.heap.size,0,none⟩ 32=true:=R2.can (by simp);go_wp2_with fail;refine bodyPost_ret (C7 rfl _ _ _ _ _ _ rfl (R2.puts (vs:=c8 x) (by simp[hlx])) Tryz.underlying35 rfl (by simp[I8,hlx])) rfl ⟨rfl,?_,O8 (O8 G1 (by omega) _ _) (Nat.le_refl _) _ _⟩;exact (aH.putFar (show g<w.heap.size+1 by omega) _).putFar zg _
end Go.Proofs.YtdfpoofbgjilgaaGreat
