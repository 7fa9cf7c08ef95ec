/- A part of the proof of AuditTells. -/
import Derived.Laws.IdiomCopy
import Derived.Test.YtmllnpokbbabhaaGreatTay
set_option linter.unusedVariables false
set_option linter.unusedSimpArgs false
set_option maxRecDepth 100000
set_option maxHeartbeats 40000000
namespace Go.Proofs.YtmllnpokbbabhaaGreat
open Go Go.RowKit Sh
section
def A4p (b:Bool) (bad:Int):Int:=if b&&(bad==0) then 13 else bad
def Ks (w:World) (g:Nat) (l:List UInt8) (bad:Int):Prop:=∃v,Bk w g 227 [v,.int .i64 bad]∧By w 0 g v l
theorem Ks.lt {w:World} {g:Nat} {l:List UInt8} {bad:Int} (h:Ks w g l bad):g<w.heap.size:=let ⟨_,h1,_⟩:=h;h1.lt
theorem By.grown {w w':World} {lo g:Nat} {v:Value} {l:List UInt8} (h:By w lo g v l) (hg:w.grownBy w' (some g)) (hl:g≤w.heap.size):By w' lo g v l:=
 h.below ((Below.refl _ _).grown hg hl (fun k hk=>by injection hk with hk;omega))
theorem Ks.below {w w':World} {g B:Nat} {l:List UInt8} {bad:Int} (h:Ks w g l bad) (hb:Below B w w') (hB:g<B):Ks w' g l bad:=
 let ⟨v,h1,h2⟩:=h;⟨v,h1.below hb hB,h2.below (hb.mono (by omega))⟩
theorem E5 {w w':World} (hb:Below w.heap.size w w') (g:Nat):w.grownBy w' (some g):=⟨hb.os,hb.tape,hb.output,hb.size,fun k hk _=>hb.block k hk⟩
theorem U0 (w:World) (g o:Nat) (u:Value):w.grownBy (w.setCell ⟨g,o,none⟩ u) (some g):=⟨by simp[World.setCell],by simp[World.setCell],by simp[World.setCell],by simp[World.setCell],fun k hk hne=>Below.heap_setCell w _ u k (fun e=>hne (by rw[e]))⟩
theorem T8 {w W:World} {g:Nat} (h:w.grownBy W (some g)) {b:Nat} (hb:w.heap.size≤b) (o:Nat) (vs:List Value):w.grownBy (C2 W ⟨b,o,none⟩ vs) (some g):=by
 have h2:=C0 (a:=⟨b,o,none⟩) (Below.refl 0 W) (Nat.zero_le _) vs;exact ⟨h2.os.trans h.os,h2.tape.trans h.tape,h2.output.trans h.output,Nat.le_trans h.size h2.size,fun k hk hne=>(X2 _ _ _ _ _ (show k≠b by omega)).trans (h.block k hk hne)⟩
theorem Ks.putFar {w:World} {g:Nat} {l:List UInt8} {bad:Int} (h:Ks w g l bad) {a:Addr} (ha:g<a.block) (vs:List Value):Ks (C2 w a vs) g l bad:=
 let ⟨v,h1,h2⟩:=h;⟨v,h1.putFar (by omega) vs,h2.below (C0 (Below.refl _ _) (by omega) vs)⟩
section
variable (g : Nat) (l : List UInt8) (w : World)
theorem B4i (bad:Int) (hb:bad≠0) (n:Nat) (h:Ks w g l bad) :
 Calls Tryz.prog 175 #[.pointer (some ⟨g,0,none⟩),.int .i64 (n:Int)] w fun e w'=>e=.returned (.slice none 0 0)∧w'=w:=by
 obtain⟨v,K,hy⟩:=h;have c1:w.cell? ⟨g,1,none⟩=some (.int .i64 bad):=K.at_ rfl;have aA:=beq_eq_false_iff_ne.2 hb;go_enter Tryz.func175,Tryz.ntmps175;go_wp2_with fail;go_ret;exact ⟨rfl,rfl⟩
theorem A3x (n:Nat) (hn:l.length<n) (hn2:n≤1099511627776) (h:Ks w g l 0) :
 Calls Tryz.prog 175 #[.pointer (some ⟨g,0,none⟩),.int .i64 (n:Int)] w fun e w'=>e=.returned (.slice none 0 0)∧Ks w' g l 10∧w.grownBy w' (some g):=by
 obtain⟨v,K,hy⟩:=h;obtain⟨A,c,rfl,aA,aB,aC⟩:=hy.open_;have c0:w.cell? ⟨g,0,none⟩=some (.slice A l.length c):=K.at_ rfl;have c1:w.cell? ⟨g,1,none⟩=some (.int .i64 0):=K.at_ rfl;have f1:=K.frozen 1;have aD:decide ((l.length:Int)<(n:Int))=true:=decide_eq_true (by omega);have K2:Bk (w.setCell ⟨g,1,none⟩ (.int .i64 10)) g 227 [.slice A l.length c,.int .i64 10]:=K.set_ 1 _;have c2:(w.setCell ⟨g,1,none⟩ (.int .i64 10)).cell? ⟨g,1,none⟩=some (.int .i64 10):=K2.at_ rfl;have G:=U0 w g 1 (.int .i64 10);have H:Ks (w.setCell ⟨g,1,none⟩ (.int .i64 10)) g l 10:=⟨_,K2,hy.grown G (Nat.le_of_lt K.lt)⟩;go_enter Tryz.func175,Tryz.ntmps175;go_wp2_with fail;go_ret;exact ⟨rfl,H,G⟩
theorem C2p (n:Nat) (hn:n≤l.length) (h:Ks w g l 0) :
 Calls Tryz.prog 175 #[.pointer (some ⟨g,0,none⟩),.int .i64 (n:Int)] w fun e w'=>∃v,e=.returned v∧By w' 0 g v (l.take n)∧Ks w' g (l.drop n) 0∧w.grownBy w' (some g):=by
 obtain⟨v,K,hy⟩:=h;obtain⟨A,c,rfl,aC,aD,aE⟩:=hy.open_;have c0:w.cell? ⟨g,0,none⟩=some (.slice A l.length c):=K.at_ rfl;have c1:w.cell? ⟨g,1,none⟩=some (.int .i64 0):=K.at_ rfl;have f0:=K.frozen 0;have aF:decide ((l.length:Int)<(n:Int))=false:=decide_eq_false (by omega);have aB:¬ (l.length:Int)<(n:Int):=by omega
 have aG:0≤(n:Int):=by omega
 have aH:(n:Int)≤(l.length:Int):=by omega
 have aI:(n:Int)≤(c:Int):=by omega
 have hd:=hy.drops (k:=n) hn;have ht:=hy.takes (k:=n) hn;have aJ:(l.drop n).length=l.length-n:=by simp
 have aA:∀u,By w 0 g u (l.drop n)→By (w.setCell ⟨g,0,none⟩ u) 0 g (.slice A n c) (l.take n)∧Ks (w.setCell ⟨g,0,none⟩ u) g (l.drop n) 0∧w.grownBy (w.setCell ⟨g,0,none⟩ u) (some g):=fun u hu=>⟨ht.grown (U0 _ _ _ _) (Nat.le_of_lt K.lt),⟨u,K.set_ 0 u,hu.grown (U0 _ _ _ _) (Nat.le_of_lt K.lt)⟩,U0 _ _ _ _⟩
 by_cases hcn:c=n
 ·rw[if_pos hcn]at hd;subst hcn;simp only[Nat.sub_self,show l.length-c=0 by omega]at hd;go_enter Tryz.func175,Tryz.ntmps175;go_wp2_with fail;go_ret;exact ⟨_,rfl,aA _ hd⟩
 ·rw[if_neg hcn]at hd;go_enter Tryz.func175,Tryz.ntmps175;go_wp2_with fail;go_ret;exact ⟨_,rfl,aA _ hd⟩
theorem Bg (bad:Int) (b:Bool) (h:Ks w g l bad) :
 Calls Tryz.prog 177 #[.pointer (some ⟨g,0,none⟩),.bool b] w fun e w'=>e=.returned (.tuple #[])∧Ks w' g l (A4p b bad)∧w.grownBy w' (some g):=by
 obtain⟨v,K,hy⟩:=h;have c1:w.cell? ⟨g,1,none⟩=some (.int .i64 bad):=K.at_ rfl;have f1:=K.frozen 1;cases b with
 | false=>
  go_enter Tryz.func177,Tryz.ntmps177;go_wp2_with fail;refine bodyPost_end (results_none rfl _ _ _) rfl ?_;exact ⟨rfl,⟨v,K,hy⟩,World.grownBy.refl w _⟩
 | true=>
  by_cases hb:bad=0
  ·subst hb;go_enter Tryz.func177,Tryz.ntmps177;go_wp2_with fail;refine bodyPost_end (results_none rfl _ _ _) rfl ?_;exact ⟨rfl,⟨v,K.set_ 1 _,hy.grown (U0 _ _ _ _) (Nat.le_of_lt K.lt)⟩,U0 _ _ _ _⟩
  ·have aA:=beq_eq_false_iff_ne.2 hb;go_enter Tryz.func177,Tryz.ntmps177;go_wp2_with fail;refine bodyPost_end (results_none rfl _ _ _) rfl ?_;have e:A4p true bad=bad:=by simp[A4p,hb]
   rw[e];exact ⟨rfl,⟨v,K,hy⟩,World.grownBy.refl w _⟩
theorem A5r (bad bad':Int) (hbad:(bad≠0∧bad'=bad)∨(bad=0∧l.length<32∧bad'=10)) (h:Ks w g l bad) :
 Calls Tryz.prog 176 #[.pointer (some ⟨g,0,none⟩)] w fun e w'=>e=.returned (A8 (z8 32))∧Ks w' g l bad'∧w.grownBy w' (some g):=by
 obtain⟨W0,aA⟩:=D9 ((w.alloc (Obj.cells (c8 (z8 32)).toArray 40)).alloc (Obj.cells (c8 (z8 32)).toArray 40));have B0:Below w.heap.size w W0:=by rw[aA];exact (U7 _ _).alloc (by simp) _
 have R0:Bk W0 w.heap.size 40 (c8 (z8 32)):=by rw[aA];exact (Bk.new w _ _).alloc _
 have H0:Bk W0 (w.heap.size+1) 40 (c8 (z8 32)):=by rw[aA];simpa using Bk.new (w.alloc (Obj.cells (c8 (z8 32)).toArray 40)) 40 (c8 (z8 32))
 have zg:=h.lt;have hr:=h.below B0 zg;have aB:Calls Tryz.prog 175 #[.pointer (some ⟨g,0,none⟩),.int .i64 ((32:Nat):Int)] W0.drew fun e w'=>e=.returned (.slice none 0 0)∧Ks w' g l bad'∧W0.drew.grownBy w' (some g):=by
  rcases hbad with ⟨hb,rfl⟩ | ⟨rfl,hl,rfl⟩
  ·exact (B4i g l W0.drew bad' hb 32 hr).mono fun e w' ⟨h1,h2⟩=>⟨h1,by rw[h2];exact hr,by rw[h2];exact World.grownBy.refl _ _⟩
  ·exact A3x g l W0.drew 32 hl (by omega) hr
 clear hbad;go_enter Tryz.func176,Tryz.ntmps176;go_wp2_with fail;rw[←aA];clear aA;have aD:Below w.heap.size w W0.drew:=B0.drew;refine Ij (fun W=>True) ?_;refine Cn (A:=?A1) [0,1] trivial (fun W hW=>?h1) ?r1;case h1=>
  exact Fa
 case r1=>
  refine Q6 2 fun Q' hQ'=>?_;dsimp only[C6];go_wp2_with fail;refine aB.mono ?_;rintro e w1 ⟨rfl,aE,aC⟩;have H1:=H0.drew.grown (w':=w1) (row:=some g) aC (fun e=>by injection e with e;have:=H0.lt;omega);have R1:=R0.drew.grown (w':=w1) (row:=some g) aC (fun e=>by injection e with e;omega);go_wp2_with fail;refine hQ' _ _ trivial ?_;clear hQ';refine Q6 3 fun Q' hQ'=>?_;dsimp only[C6];have aF:∀ty,(Builtin.copy_ #[38,38] ty #[.slice (some ⟨w.heap.size+1,0,none⟩) 32 32,.slice none 0 0]).run Tryz.prog w1=.ok (goInt 0) w1:=fun ty=>run_copy_none w1 _ _ ty 5 _ _ _ _ _ _ Tryz.underlying38 (by kernel_rfl) (by decide);go_wp2_with fail;refine hQ' _ _ trivial ?_;clear hQ' aF;refine Gn ?_;have aG:C4 w1 ⟨w.heap.size+1,0,none⟩ 32=some (c8 (z8 32)):=by have:=H1.rows;rwa [C1,L6]at this
  have aH:=Nn 32 R1 (by simp);go_wp2_with fail;refine bodyPost_ret (C7 rfl _ _ _ _ _ _ rfl (R1.puts (vs:=c8 (z8 32)) (by simp)) Tryz.underlying40 rfl (by simp[H9])) rfl ⟨rfl,aE.putFar zg _,?_⟩;exact T8 ((E5 aD g).trans aC) (Nat.le_refl _) _ _
theorem D5m (hl:32≤l.length) (h:Ks w g l 0) :
 Calls Tryz.prog 176 #[.pointer (some ⟨g,0,none⟩)] w fun e w'=>e=.returned (A8 (l.take 32))∧Ks w' g (l.drop 32) 0∧w.grownBy w' (some g):=by
 obtain⟨W0,aB⟩:=D9 ((w.alloc (Obj.cells (c8 (z8 32)).toArray 40)).alloc (Obj.cells (c8 (z8 32)).toArray 40));have B0:Below w.heap.size w W0:=by rw[aB];exact (U7 _ _).alloc (by simp) _
 have R0:Bk W0 w.heap.size 40 (c8 (z8 32)):=by rw[aB];exact (Bk.new w _ _).alloc _
 have H0:Bk W0 (w.heap.size+1) 40 (c8 (z8 32)):=by rw[aB];simpa using Bk.new (w.alloc (Obj.cells (c8 (z8 32)).toArray 40)) 40 (c8 (z8 32))
 have zg:=h.lt;have hr:=h.below B0 zg;have aC:=C2p g l W0.drew 32 hl hr;have aA:(l.take 32).length=32:=by simp;omega
 generalize hx:l.take 32=x at *;clear hx;generalize l.drop 32=rest at *;go_enter Tryz.func176,Tryz.ntmps176;go_wp2_with fail;rw[←aB];clear aB;have aF:Below w.heap.size w W0.drew:=B0.drew;refine Ij (fun W=>True) ?_;refine Cn (A:=?A1) [0,1] trivial (fun W hW=>?h1) ?r1;case h1=>
  exact Fa
 case r1=>
  refine Q6 2 fun Q' hQ'=>?_;dsimp only[C6];go_wp2_with fail;refine aC.mono ?_;rintro e w1 ⟨u,rfl,hu,aG,aE⟩;have H1:=H0.drew.grown (w':=w1) (row:=some g) aE (fun e=>by injection e with e;have:=H0.lt;omega);have R1:=R0.drew.grown (w':=w1) (row:=some g) aE (fun e=>by injection e with e;omega);go_wp2_with fail;refine hQ' _ _ trivial ?_;clear hQ';refine Q6 3 fun Q' hQ'=>?_;dsimp only[C6];obtain⟨gu,ou,cu,rfl,aL,aH,_,aM,aD⟩:=hu.row (by omega);rw[aA];have aI:∀ty,(Builtin.copy_ #[38,38] ty #[.slice (some ⟨w.heap.size+1,0,none⟩) 32 32,.slice (some ⟨gu,ou,none⟩) 32 cu]).run Tryz.prog w1=.ok (goInt 32) (C2 w1 ⟨w.heap.size+1,0,none⟩ (c8 x)):=fun ty=>by
   have:=run_copy_cells (P:=Tryz.prog) w1 38 38 ty 5 (w.heap.size+1) 0 32 32 ⟨gu,ou,none⟩ 32 cu (c8 x) Tryz.underlying38 (by kernel_rfl) (by simp[aA]) (fun j v hj=>(Lz aD).2 j v hj) (fun j hj=>by rw[Nat.zero_add,H1.cell];simp[aA]at hj;simp[hj]) (fun j hj=>H1.frozen _) (by intro u hu;obtain⟨y,_,rfl⟩:=List.mem_map.1 hu;rfl);rw[C1,aA]at this;exact this
  go_wp2_with fail;refine hQ' _ _ trivial ?_;clear hQ' aI;refine Gn ?_;have H2:=H1.puts (vs:=c8 x) (by simp[aA]);have R2:=R1.putFar (p:=⟨w.heap.size+1,0,none⟩) (by simp) (c8 x);have aJ:C4 (C2 w1 ⟨w.heap.size+1,0,none⟩ (c8 x)) ⟨w.heap.size+1,0,none⟩ 32=some (c8 x):=by have:=H2.rows;rwa [C1,aA]at this
  have aK:=Nn 32 R2 (by simp);go_wp2_with fail;refine bodyPost_ret (C7 rfl _ _ _ _ _ _ rfl (R2.puts (vs:=c8 x) (by simp[aA])) Tryz.underlying40 rfl (by simp[H9,aA])) rfl ⟨rfl,(aG.putFar (show g<w.heap.size+1 by omega) _).putFar zg _,?_⟩;exact T8 (T8 ((E5 aF g).trans aE) (by omega) _ _) (Nat.le_refl _) _ _
end
end
section
@[go_sem ↓ high] theorem E8v (k : IntKind) (r : Nat) (hr : r < 8) : Op.shift .shr .u8 128 k (r : Int) = pure (.int .u8 (n8 (128 >>> UInt8.ofNat r))) := Uw 128 k r hr
theorem A1f (g:Nat) (l:List UInt8) (w:World) (bad:Int) (h:Ks w g l bad) :
 Calls Tryz.prog 176 #[.pointer (some ⟨g,0,none⟩)] w fun e w'=>∃x l' bad',e=.returned (A8 x)∧x.length=32∧Ks w' g l' bad'∧w.grownBy w' (some g)∧
  ((bad=0∧32≤l.length∧x=l.take 32∧l'=l.drop 32∧bad'=0)∨(bad=0∧l.length<32∧bad'=10)∨(bad≠0∧bad'=bad)):=by
 by_cases hb:bad=0
 ·subst hb;by_cases hl:32≤l.length
  ·exact (D5m g l w hl h).mono fun e w' ⟨h1,h2,h3⟩=>⟨_,_,_,h1,by simp;omega,h2,h3,.inl ⟨rfl,hl,rfl,rfl,rfl⟩⟩
  ·exact (A5r g l w 0 10 (.inr ⟨rfl,by omega,rfl⟩) h).mono fun e w' ⟨h1,h2,h3⟩=>⟨_,_,_,h1,by simp,h2,h3,.inr (.inl ⟨rfl,by omega,rfl⟩)⟩
 ·exact (A5r g l w bad bad (.inl ⟨hb,rfl⟩) h).mono fun e w' ⟨h1,h2,h3⟩=>⟨_,_,_,h1,by simp,h2,h3,.inr (.inr ⟨hb,rfl⟩)⟩
theorem Ks.cells {w:World} {g:Nat} {l:List UInt8} {bad:Int} (h:Ks w g l bad):w.cell? ⟨g,1,none⟩=some (.int .i64 bad):=let ⟨_,h1,_⟩:=h;h1.at_ rfl
theorem C8a (g:Nat) (l:List UInt8) (w:World) (bad:Int) (hb:bad≠0) (path:List UInt8) (hp:path.length=32) (d:Nat) (h:Ks w g l bad) :
 Calls Tryz.prog 132 #[.pointer (some ⟨g,0,none⟩),A8 path,.int .i64 (d:Int)] w fun e w'=>e=.returned Pt.e.val∧Ks w' g l bad∧w.grownBy w' (some g):=by
 obtain⟨W0,aA⟩:=D9 (w.alloc (Obj.cells (c8 path).toArray 40));have B0:=BA' aA;have r0:=h.below B0 h.lt;have aC:=beq_eq_false_iff_ne.2 hb;have c1:=r0.cells;go_enter Tryz.func132,Tryz.ntmps132;go_wp2_with fail;rw[←aA];refine (B4i g l W0 bad hb 1 r0).mono ?_;rintro e w1 ⟨rfl,rfl⟩;clear aA;have aB:(bad != 0)=true:=by simp[hb]
 go_wp2_with fail;go_ret;exact ⟨rfl,r0,E5 B0 g⟩
def Us (g:Nat) (r:Except Nat (Pt×List UInt8)) (e:Ending) (w':World):Prop:=match r with
 | .ok x=>e=.returned x.1.val∧Ks w' g x.2 0
 | .error n=>∃(q:Pt) (l':List UInt8),e=.returned q.val∧Ks w' g l' (n:Int)∧q.Wf
theorem Kj {g f:Nat} {way:List Bool} {l:List UInt8} {e:Ending} {w':World} (hf:f+way.length=256) (h:Us g (rd f way l) e w'):∃(q:Pt) (l':List UInt8) (bad:Int),e=.returned q.val∧q.Wf∧Ks w' g l' bad∧((bad=0∧rd f way l=.ok (q,l'))∨(bad≠0∧∃n:Nat,rd f way l=.error n∧bad=(n:Int))):=by
 cases hr:rd f way l with
 | ok x=>
  rw[hr]at h;exact ⟨x.1,x.2,0,h.1,(B5n f way l x.1 x.2 hf hr).2.1.wf,h.2,.inl ⟨rfl,rfl⟩⟩
 | error n=>
  rw[hr]at h;obtain⟨q,l',h1,h2,h3⟩:=h;exact ⟨q,l',n,h1,h3,h2,.inr ⟨by rcases D2u hr with rfl | rfl<;>decide,n,rfl,rfl⟩⟩
def Sk (way:List Bool) (key:List UInt8) (n:Nat):Bool:=(List.range n).all fun i=>E3 key i==Eg way i
theorem C5f (way:List Bool) (key:List UInt8):Sk way key way.length=chk way key:=rfl
theorem C0a (way:List Bool) (key:List UInt8) (n:Nat):Sk way key (n+1)=(Sk way key n&&(E3 key n==Eg way n)):=by simp[Sk,List.range_succ]
def A8k (bad0:Int) (b:Bool):Int:=if bad0==0 && !b then 13 else bad0
theorem C2t {way:List Bool} {kk path:List UInt8} {i:Nat} {bad:Int} (h:E3 path i=Eg way i):A4p (!(E3 kk i==E3 path i)) (A8k bad (Sk way kk i))=A8k bad (Sk way kk (i+1)):=by
 rw[C0a,←h];unfold A4p A8k;by_cases hb:bad=0
 ·subst hb;cases Sk way kk i<;>cases (E3 kk i==E3 path i)<;>rfl
 ·have:(bad==0)=false:=beq_eq_false_iff_ne.2 hb;simp[this]
def A8f (k:List UInt8) (n:Nat):List UInt8:=k.set (n / 8) (g8 k (n / 8) ||| (128 >>> UInt8.ofNat (n % 8)))
theorem Zf (k:List UInt8) (n:Nat):(A8f k n).length=k.length:=by simp[A8f]
theorem C3t (k:List UInt8) (n i:Nat) (hk:k.length=32) (hn:n<256) (hi:i<256):E3 (A8f k n) i=(E3 k i||decide (i=n)):=by
 rw[Ky,Ky];unfold A8f g8;by_cases h:i / 8=n / 8
 ·rw[h];have hl:n / 8<k.length:=by omega
  simp only[List.getD_eq_getElem?_getD,List.getElem?_set_self hl,Option.getD_some,List.getElem?_eq_getElem hl];rw[UInt8.toNat_or,UInt8.toNat_shiftRight,UInt8.toNat_ofNat',Nat.testBit_or];have e:n % 8 % 2 ^ 8 % 8=n % 8:=by omega
  rw[e];have e2:((128:UInt8).toNat >>> (n % 8)).testBit (7-i % 8)=decide (i=n):=by
   have aB:i % 8<8:=by omega
   have aC:n % 8<8:=by omega
   have:(i=n)↔i % 8=n % 8:=by omega
   simp only[this];show ((128:Nat) >>> (n % 8)).testBit (7-i % 8)=_;generalize i % 8=a at *;generalize n % 8=b at *;have ha:a=0∨a=1∨a=2∨a=3∨a=4∨a=5∨a=6∨a=7:=by omega
   have hb:b=0∨b=1∨b=2∨b=3∨b=4∨b=5∨b=6∨b=7:=by omega
   rcases ha with rfl | rfl | rfl | rfl | rfl | rfl | rfl | rfl<;>rcases hb with rfl | rfl | rfl | rfl | rfl | rfl | rfl | rfl<;>rfl
  rw[e2]
 ·have aA:i≠n:=by intro e;exact h (by rw[e])
  simp only[List.getD_eq_getElem?_getD,List.getElem?_set_ne (Ne.symm h)];simp[aA]
theorem C9i {way:List Bool} {path:List UInt8} (h:∀i,i<256→E3 path i=Eg way i):∀i,i<256→E3 path i=Eg (way++[false]) i:=by
 intro i hi;rw[h i hi];unfold Eg;simp only[List.getD_eq_getElem?_getD,List.getElem?_append];split
 ·rfl
 ·rename_i hl
  rw[List.getElem?_eq_none (by omega)];cases hz:i-way.length with
  | zero=>rfl
  | succ n=>rfl
theorem C3p {way:List Bool} {path:List UInt8} (hp:path.length=32) (hd:way.length<256) (h:∀i,i<256→E3 path i=Eg way i):∀i,i<256→E3 (A8f path way.length) i=Eg (way++[true]) i:=by
 intro i hi;rw[C3t _ _ _ hp hd hi,h i hi];unfold Eg;simp only[List.getD_eq_getElem?_getD,List.getElem?_append];split
 ·rename_i hl;simp[show i≠way.length by omega]
 ·rename_i hl
  rw[List.getElem?_eq_none (by omega)];by_cases e:i=way.length
  ·subst e;simp
  ·obtain⟨m,hm⟩:∃m,i-way.length=m+1:=⟨i-way.length-1,by omega⟩;rw[hm];simp[e]
def Pt.leafB:Pt→List UInt8 | .lf k v=>pb (k,v) | _=>z8 64
@[go_sem] theorem E1m : ∀ (p : Pt) (w : World), (Instr.build 222 #[(0, p.val)]).run Tryz.prog w = .ok (.agg #[p.val, .nilIface]) w
 | .e,w=>by kernel_rfl
 | .lf _ _,w=>by kernel_rfl
 | .nd _ _,w=>by kernel_rfl
 | .hd _,w=>by kernel_rfl
theorem Pt.form3:∀p:Pt,(p.val=.nilIface∧p.isE=true∧p.isLf=false)∨(∃t x,p.val=.iface t x∧p.isE=false∧p.isLf=true)∨(∃t x,p.val=.iface t x∧p.isE=false∧p.isLf=false)
 | .e=>.inl ⟨rfl,rfl,rfl⟩
 | .lf _ _=>.inr (.inl ⟨_,_,rfl,rfl,rfl⟩)
 | .nd _ _=>.inr (.inr ⟨_,_,rfl,rfl,rfl⟩)
 | .hd _=>.inr (.inr ⟨_,_,rfl,rfl,rfl⟩)
theorem Q4 (W:World) (t:TypeId) (l:List UInt8) (n N:Nat) (hl:l.length=n) (hN:W.heap.size=N):F9 (W.alloc (Obj.cells (c8 l).toArray t)) ⟨N,0,none⟩ n=true:=by
 subst hl hN;exact (Bk.new W t (c8 l)).can (by simp)
theorem Ad {w a b:World} {g:Nat} (h:w.grownBy a (some g)) (hb:Below w.heap.size a b):w.grownBy b (some g):=
 ⟨hb.os.trans h.os,hb.tape.trans h.tape,hb.output.trans h.output,Nat.le_trans h.size hb.size,fun k hk hne=>(hb.block k hk).trans (h.block k hk hne)⟩
def NdV (ql qr:Pt) (v:Value):Prop:=v=(Pt.nd ql qr).val
def D8x (ql qr:Pt) (c:Bool):Prop:=ill ql qr=c
theorem Ek {g f:Nat} {way:List Bool} {b l2 l3:List UInt8} {ql qr:Pt} {bad2 bad3:Int} {w:World} {c:Bool} {v:Value} (hv:NdV ql qr v) (hl:ql.Wf) (hr:qr.Wf) (hc:D8x ql qr c) (r:Ks w g l3 (A4p c bad3))
 (h2:(bad2=0∧rd f (way++[false]) b=.ok (ql,l2))∨(bad2≠0∧∃n:Nat,rd f (way++[false]) b=.error n∧bad2=(n:Int)))
 (h3:(bad2=0∧bad3=0∧rd f (way++[true]) l2=.ok (qr,l3))∨(bad2=0∧bad3≠0∧∃n:Nat,rd f (way++[true]) l2=.error n∧bad3=(n:Int))∨(bad2≠0∧bad3=bad2)) :
 Us g (rd (f+1) way (2::b)) (.returned v) w:=by
 unfold NdV at hv;subst hv;unfold D8x at hc;have aA:rd (f+1) way (2::b)=match rd f (way++[false]) b with
  | .error e=>.error e
  | .ok (l,b1)=>match rd f (way++[true]) b1 with
   | .error e=>.error e
   | .ok (r,b2)=>if ill l r then .error 13 else .ok (.nd l r,b2):=rfl
 rw[aA];have nz:∀ {c:Bool} {x:Int},x≠0→A4p c x=x:=fun {c x} h=>by
  have:(x==0)=false:=beq_eq_false_iff_ne.2 h;simp[A4p,this]
 rcases h2 with ⟨e2,h2⟩ | ⟨e2,n,h2,hn⟩
 ·rw[h2];rcases h3 with ⟨_,e3,h3⟩ | ⟨_,e3,n,h3,hn⟩ | ⟨h,_⟩
  ·simp only[h3,hc];subst e3;cases c with
   | true=>exact ⟨_,_,rfl,r,hl,hr⟩
   | false=>exact ⟨rfl,r⟩
  ·simp only[h3];rw[nz e3,hn]at r;exact ⟨_,_,rfl,r,hl,hr⟩
  ·exact absurd e2 h
 ·rw[h2];rcases h3 with ⟨h,_⟩ | ⟨h,_⟩ | ⟨_,h⟩
  ·exact absurd h e2
  ·exact absurd h e2
  ·subst h;rw[nz e2,hn]at r;exact ⟨_,_,rfl,r,hl,hr⟩
theorem Wd:∀ {p:Pt},p.Wf→p.leafB.length=64
 | .e,_=>by simp[Pt.leafB]
 | .lf _ _,h=>Si.len h
 | .nd _ _,_=>by simp[Pt.leafB]
 | .hd _,_=>by simp[Pt.leafB]
@[go_sem] theorem A3z : ∀ (p : Pt) (w : World), (Instr.typeAssert p.val 93 216 true).run Tryz.prog w = .ok (.tuple #[A8 p.leafB, .bool p.isLf]) w
 | .e,w=>B0z w
 | .lf _ _,w=>A8p _ w
 | .nd _ _,w=>A4m _ w
 | .hd _,w=>A4b _ w
section
variable (g f : Nat) (way : List Bool) (path : List UInt8) (hp : path.length = 32) (hw : ∀ i, i < 256 → E3 path i = Eg way i) (hf : f + way.length = 256)
include hp hw hf
theorem A6f (IH:∀f',f=f'+1→∀(way:List Bool) (path:List UInt8),path.length=32→(∀i,i<256→E3 path i=Eg way i)→f'+way.length=256→∀(l:List UInt8) (w:World),Ks w g l 0→
 Calls Tryz.prog 132 #[.pointer (some ⟨g,0,none⟩),A8 path,.int .i64 (way.length:Int)] w fun e w'=>w.grownBy w' (some g)∧Us g (rd f' way l) e w')
 (l:List UInt8) (w:World) (h:Ks w g l 0) :
 Calls Tryz.prog 132 #[.pointer (some ⟨g,0,none⟩),A8 path,.int .i64 (way.length:Int)] w fun e w'=>w.grownBy w' (some g)∧Us g (rd f way l) e w':=by
 obtain⟨W0,aW⟩:∃x,x=w.alloc (Obj.cells (c8 path).toArray 40):=⟨_,rfl⟩;have B0:Below w.heap.size w W0:=by rw[aW];exact (Below.refl _ _).alloc (Nat.le_refl _) _
 have K0:Bk W0 w.heap.size 40 (c8 path):=by rw[aW];exact Bk.new w _ _
 have zg:=h.lt;have r0:=h.below B0 zg;have G0:w.grownBy W0 (some g):=E5 B0 g;cases l with
 | nil=>
  have aF:rd f way []=.error 10:=by cases f<;>rfl
  rw[aF];go_enter Tryz.func132,Tryz.ntmps132;go_wp2_with fail;rw[←aW];refine (A3x g [] W0 1 (by simp) (by omega) r0).mono ?_;rintro e w1 ⟨rfl,r1,g1⟩;have c1:=r1.cells;go_wp2_with fail;go_ret;exact ⟨G0.trans g1,.e,[],rfl,r1,trivial⟩
 | cons k b=>
  go_enter Tryz.func132,Tryz.ntmps132;go_wp2_with fail;rw[←aW];clear aW;refine (C2p g (k::b) W0 1 (by simp) r0).mono ?_;simp only[List.take_succ_cons,List.take_zero,List.drop_succ_cons,List.drop_zero];rintro e w1 ⟨u,rfl,hu,r1,g1⟩;have c1:=r1.cells;obtain⟨gu,ou,cu,rfl,bP,bQ,_,cB,aU⟩:=hu.row (by simp);have bM:w1.cell? ⟨gu,ou,none⟩=some (.int .u8 (n8 k)):=by have h0:=(Lz aU).2 0 (v8 k) rfl;rw[P9]at h0;exact h0
  have K1:=K0.grown (w':=w1) (row:=some g) g1 (fun e=>by injection e with e;omega);have G1:=G0.trans g1;clear hu aU bP B0 K0 r0 G0 g1 h;have q0:(n8 k==0)=(k==0):=Wu (x:=k) (y:=0);have q1:(n8 k==1)=(k==1):=Wu (x:=k) (y:=1);have q2:(n8 k==2)=(k==2):=Wu (x:=k) (y:=2);have q3:(n8 k==3)=(k==3):=Wu (x:=k) (y:=3);dsimp only[List.length_cons,List.length_nil];by_cases e0:k=0
  ·
   subst e0;rw[show ((0:UInt8)==0)=true from rfl]at q0;have aF:rd f way (0::b)=.ok (.e,b):=by cases f<;>rfl
   go_wp2_with fail;go_ret;rw[aF];exact ⟨G1,rfl,r1⟩
  by_cases e1:k=1
  ·
   subst e1;rw[show ((1:UInt8)==0)=false from rfl]at q0;rw[show ((1:UInt8)==1)=true from rfl]at q1;have aF:rd f way (1::b)=if b.length<64 then .error 10 else if chk way (b.take 32) then .ok (.lf (b.take 32) ((b.drop 32).take 32),b.drop 64) else .error 13:=by cases f<;>rfl
   have HR:=Lib.hid aF;clear aF;go_wp2_with fail;refine (A1f g b w1 0 r1).mono ?_;rintro e w2 ⟨kk,l2,aG,rfl,aX,r2,g2,aY⟩;have K2:=K1.grown (w':=w2) (row:=some g) g2 (fun e=>by injection e with e;omega);have G2:=G1.trans g2;have aN:=Lib.hid aY;clear aY r1 c1 bM K1 G1 g2;go_wp2_with fail;refine (A1f g l2 w2 aG r2).mono ?_;rintro e w3 ⟨vv,l3,aA,rfl,aP,r3,g3,aV⟩;have K3:=K2.grown (w':=w3) (row:=some g) g3 (fun e=>by injection e with e;omega);have G3:=G2.trans g3;have HB:Hid ((aA=0∧64≤b.length∧kk=b.take 32∧vv=(b.drop 32).take 32∧l3=b.drop 64)∨(aA=10∧b.length<64)):=Lib.hid (by
    rcases aN.out with ⟨_,h1,h2,h3,h4⟩ | ⟨_,h1,h2⟩ | ⟨h1,_⟩
    ·subst h3 h4;rcases aV with ⟨_,h5,h6,h7,h8⟩ | ⟨_,h5,h6⟩ | ⟨h5,_⟩
     ·exact .inl ⟨h8,by simp at h5;omega,h2,h6,by rw[h7,List.drop_drop]⟩
     ·exact .inr ⟨h6,by simp at h5;omega⟩
     ·exact absurd rfl h5
    ·subst h2;rcases aV with ⟨h5,_⟩ | ⟨h5,_⟩ | ⟨_,h6⟩
     ·cases h5
     ·cases h5
     ·exact .inr ⟨h6,by omega⟩
    ·exact absurd rfl h1)
   clear aV aN r2 K2 G2 g3;have aZ:(pb (kk,vv)).length=64:=Si.len ⟨aX,aP⟩;obtain⟨W4,bF⟩:∃x,x=C2 (w3.alloc (Obj.cells (c8 (z8 64)).toArray 216)) ⟨w3.heap.size,0,none⟩ (c8 (pb (kk,vv))):=⟨_,rfl⟩;have L4:Bk W4 w3.heap.size 216 (c8 (pb (kk,vv))):=by rw[bF];exact Bk.fresh w3 _ (by simp[aZ])
   have B4:Below w3.heap.size w3 W4:=by rw[bF];exact C0 ((Below.refl _ _).alloc (Nat.le_refl _) _) (Nat.le_refl _) _
   have bI:=r3.lt;have K4:=K3.below B4 K3.lt;have r4:=r3.below B4 bI;have G4:=G3.trans (E5 B4 g);have zz:w.heap.size<w3.heap.size:=K3.lt;clear K3 G3 r3;go_wp2_with fail;rw[←bF];clear bF;go_loopw [35] (fun t wr=>∃i:Nat,i≤way.length∧t=.int .i64 (i:Int)∧Bk wr w3.heap.size 216 (c8 (pb (kk,vv)))∧Bk wr w.heap.size 40 (c8 path)∧Ks wr g l3 (A8k aA (Sk way kk i))∧w.grownBy wr (some g)) (fun t _=>way.length-(intOf t).toNat)
   case atStart=>exact ⟨0,by omega,rfl,L4,K4,by simpa [A8k,Sk] using r4,G4⟩
   case round=>
    clear L4 K4 r4 G4 B4;obtain⟨i,hi,rfl,L5,K5,r5,G5⟩:=hrel;by_cases hlt:i<way.length
    ·go_wp2_with fail;have S0:Bk wr.drew w3.heap.size 216 (c8 (pb (kk,vv)))∧Bk wr.drew w.heap.size 40 (c8 path):=⟨L5.drew,K5.drew⟩;refine A0t (fun W=>Bk W w3.heap.size 216 (c8 (pb (kk,vv)))∧Bk W w.heap.size 40 (c8 path)) (by kernel_rfl) ?_;refine Ui (A:=?A1) [0,1,2,3,5,6] (by kernel_rfl) (by kernel_rfl) rfl (by kernel_rfl) (by kernel_rfl) S0 (h:=fun W hW=>?h1) (hr:=?r1);case h1=>
      have rk:C4 W ⟨w3.heap.size,0,none⟩ 32=some (c8 kk):=Hv hW.1 ⟨aX,aP⟩;have rp:C4 W ⟨w.heap.size,0,none⟩ 32=some (c8 path):=by have:=hW.2.rows;rwa [C1,hp]at this
      simp only[pick,List.getElem?_cons_zero,List.getElem?_cons_succ];repeat (go_big_quiet_step (fail))
      refine wpQuiet_nil ?_;rfl
     case r1=>
      refine Gb 4 (by kernel_rfl) (by rfl) (by rfl) (fun Q' hQ'=>?_);dsimp only[C6];go_wp2_with fail;refine (Ej kk i aX (by omega) wr.drew).mono ?_;rintro e w5 ⟨rfl,bA⟩;have r6:Ks w5 g l3 (A8k aA (Sk way kk i)):=Ks.below (w:=wr.drew) r5 bA r5.lt;have S5:=And.intro (S0.1.below bA S0.1.lt) (S0.2.below bA S0.2.lt);have G6:w.grownBy w5 (some g):=G5.trans (World.grownBy.trans (b:=wr.drew) (E5 (w:=wr) (Below.refl _ _).drew g) (E5 bA g));go_wp2_with fail;refine hQ' _ _ S5 ?_;clear hQ';refine Gb 7 (by kernel_rfl) (by rfl) (by rfl) (fun Q' hQ'=>?_);dsimp only[C6];go_wp2_with fail;refine (Ej path i hp (by omega) w5).mono ?_;rintro e w6 ⟨rfl,bB⟩;have r7:=r6.below bB r6.lt;have S6:=And.intro (S5.1.below bB S5.1.lt) (S5.2.below bB S5.2.lt);have G7:=G6.trans (E5 bB g);go_wp2_with fail;refine hQ' _ _ S6 ?_;clear hQ';refine Ui (A:=?A2) [8] (by kernel_rfl) (by kernel_rfl) rfl (by kernel_rfl) (by kernel_rfl) S6 (h:=fun W hW=>?h2) (hr:=?r2);case h2=>
       simp only[List.append_eq,List.nil_append,List.cons_append,pick,List.getElem?_cons_zero,List.getElem?_cons_succ];repeat (go_big_quiet_step (fail))
       refine wpQuiet_nil ?_;rfl
      case r2=>
       refine Gb 9 (by kernel_rfl) (by rfl) (by rfl) (fun Q' hQ'=>?_);dsimp only[C6];go_wp2_with fail;refine (Bg g l3 w6 _ (!(E3 kk i==E3 path i)) r7).mono ?_;rintro e w7 ⟨rfl,r8,bG⟩;rw[C2t (hw i (by omega))]at r8;have L8:=S6.1.grown (w':=w7) (row:=some g) bG (fun e=>by injection e with e;omega);have K8:=S6.2.grown (w':=w7) (row:=some g) bG (fun e=>by injection e with e;omega);have G8:=G7.trans bG;clear r5 r6 r7 L5 K5 G5 G6 G7 S0 S5 S6 bA bB bG;go_wp2_with fail;refine hQ' _ _ ⟨L8,K8⟩ ?_;clear hQ';refine B5h (by kernel_rfl) ?_;go_wp2_with fail;go_roundw;case rel=>exact ⟨i+1,by omega,by go_num,L8,K8,r8,G8⟩
       case measure=>simp[intOf];omega
    ·obtain rfl:i=way.length:=by omega
     rw[C5f]at r5;have rl:C4 wr ⟨w3.heap.size,0,none⟩ 64=some (c8 (pb (kk,vv))):=by have:=L5.rows;rwa [C1,aZ]at this
     go_wp2_with fail;go_ret;refine ⟨G5,?_⟩;rw[HR.out];rcases HB.out with ⟨h1,h2,rfl,rfl,rfl⟩ | ⟨h1,h2⟩
     ·rw[if_neg (by omega)];subst h1;cases hc:chk way (b.take 32) with
      | true=>rw[hc]at r5;exact ⟨rfl,by simpa [A8k] using r5⟩
      | false=>rw[hc]at r5;exact ⟨.lf _ _,_,rfl,by simpa [A8k] using r5,aX,aP⟩
     ·rw[if_pos h2];subst h1;exact ⟨.lf kk vv,l3,rfl,by simpa [A8k] using r5,aX,aP⟩
  by_cases e2:k=2
  ·
   subst e2;rw[show ((2:UInt8)==0)=false from rfl]at q0;rw[show ((2:UInt8)==1)=false from rfl]at q1;rw[show ((2:UInt8)==2)=true from rfl]at q2;cases f with
   | zero=>
    have bN:way.length=256:=by omega
    have bR:decide ((way.length:Int)≥256)=true:=decide_eq_true (by omega);go_wp2_with fail;refine (Bg g b w1 0 true r1).mono ?_;rintro e w2 ⟨rfl,r2,g2⟩;have c2:=r2.cells;dsimp only[A4p]at c2;go_wp2_with fail;go_ret;exact ⟨G1.trans g2,.e,b,rfl,r2,trivial⟩
   | succ f=>
    have bR:decide ((way.length:Int)≥256)=false:=decide_eq_false (by omega);have bC:f+(way++[false]).length=256:=by simp;omega
    have bD:f+(way++[true]).length=256:=by simp;omega
    have bJ:=IH f rfl (way++[false]) path hp (C9i hw) bC b;have bK:=IH f rfl (way++[true]) (A8f path way.length) (by rw[Zf,hp]) (C3p hp (by omega) hw) bD;have el:(((way++[false]).length:Nat):Int)=(way.length:Int)+1:=by simp
    have er:(((way++[true]).length:Nat):Int)=(way.length:Int)+1:=by simp
    rw[er]at bK;rw[el]at bJ;have bS:=Lib.hid bC;have bT:=Lib.hid bD;have HW:=Lib.hid hw;clear el er bC bD IH hw;have bO:(A8f path way.length).length=32:=by rw[Zf,hp]
    generalize hd:way.length=d at *;have bE:A8f path d=path.set (d / 8) (g8 path (d / 8) ||| (128 >>> UInt8.ofNat (d % 8))):=rfl;have bL:=Lib.hid bE;generalize hpe:A8f path d=path2 at *;clear bE hpe;have hq:(d:Int) / 8=((d / 8:Nat):Int):=by omega
    have hr:(d:Int) % 8=((d % 8:Nat):Int):=by omega
    have cC:d / 8<32:=by omega
    have cD:d % 8<8:=by omega
    generalize hqe:d / 8=q at *;generalize hre:d % 8=r at *;clear hqe hre;go_wp2_with fail;refine (Bg g b w1 0 false r1).mono ?_;rintro e w2 ⟨rfl,r2,g2⟩;have c2:=r2.cells;dsimp only[A4p]at r2 c2;have K2:=K1.grown (w':=w2) (row:=some g) g2 (fun e=>by injection e with e;omega);have G2:=G1.trans g2;have bU:C4 w2 ⟨w.heap.size,0,none⟩ 32=some (c8 path):=by have:=K2.rows;rwa [C1,hp]at this
    clear r1 c1 K1 G1 g2 bM;go_wp2_with fail;refine (bJ w2 r2).mono ?_;rintro e w3 ⟨g3,hN⟩;obtain⟨ql,l2,aG,rfl,aQ,r3,aY⟩:=Kj bS.out hN;have aN:=Lib.hid aY;have K3:=K2.grown (w':=w3) (row:=some g) g3 (fun e=>by injection e with e;omega);have G3:=G2.trans g3;clear hN aY r2 c2 K2 G2 g3 bU bJ;have bX:=K3.lt;have bI:=r3.lt;obtain⟨vv,aP⟩:∃x,x=Value.int .u8 (n8 (g8 path q ||| 128 >>> UInt8.ofNat r)):=⟨_,rfl⟩;have e0:=K3.at_ (Nh (l:=path) (i:=q) (by omega));have f0:=K3.frozen q;have K4:Bk (w3.setCell ⟨w.heap.size,q,none⟩ vv) w.heap.size 40 (c8 path2):=by
     have:=K3.set_ q vv;rw[aP,Lp,←bL.out,←aP]at this;exact this
    have z4:(w3.setCell ⟨w.heap.size,q,none⟩ vv).heap.size=w3.heap.size:=by simp
    have r4:Ks (w3.setCell ⟨w.heap.size,q,none⟩ vv) g l2 aG:=r3.below ((Below.refl w.heap.size _).setCell (Nat.le_refl _) _) zg;have G4:w.grownBy (w3.setCell ⟨w.heap.size,q,none⟩ vv) (some g):=
     ⟨G3.os,G3.tape,G3.output,by simpa using G3.size,fun k hk hne=>(Below.heap_setCell _ ⟨w.heap.size,q,none⟩ _ k (show k≠w.heap.size by omega)).trans (G3.block k hk hne)⟩
    obtain⟨W5,bH⟩:∃x,x=(w3.setCell ⟨w.heap.size,q,none⟩ vv).alloc (Obj.cells #[ql.val,.nilIface] 222):=⟨_,rfl⟩;have A5:Bk W5 w3.heap.size 222 [ql.val,.nilIface]:=by rw[bH,←z4];exact Bk.new _ _ [_,_]
    have B5:Below w3.heap.size (w3.setCell ⟨w.heap.size,q,none⟩ vv) W5:=by rw[bH];exact (Below.refl _ _).alloc (by rw[z4];exact Nat.le_refl _) _
    have K5:=K4.below B5 bX;have r5:=r4.below B5 bI;have G5:=G4.trans (E5 (by rw[z4];exact B5) g);have bY:C4 (w3.setCell ⟨w.heap.size,q,none⟩ (.int .u8 (n8 (g8 path q ||| 128 >>> UInt8.ofNat r)))) ⟨w.heap.size,0,none⟩ 32=some (c8 path2):=by have:=K4.rows;rw[C1,bO,aP]at this;exact this
    clear K3 G3 r3 K4 r4 G4 B5;have aO:Calls Tryz.prog 132 #[.pointer (some ⟨g,0,none⟩),A8 path2,.int .i64 ((d:Int)+1)] W5 fun e w'=>∃(qr:Pt) (l3:List UInt8) (aA:Int),e=.returned qr.val∧qr.Wf∧Ks w' g l3 aA∧W5.grownBy w' (some g)∧
     ((aG=0∧aA=0∧rd f (way++[true]) l2=.ok (qr,l3))∨(aG=0∧aA≠0∧∃n:Nat,rd f (way++[true]) l2=.error n∧aA=(n:Int))∨(aG≠0∧aA=aG)):=by
     by_cases hb2:aG=0
     ·subst hb2;refine (bK l2 W5 r5).mono ?_;rintro e w6 ⟨g6,hN⟩;obtain⟨qr,l3,aA,h1,h2,h3,h4⟩:=Kj bT.out hN;refine ⟨qr,l3,aA,h1,h2,h3,g6,?_⟩;rcases h4 with ⟨h5,h6⟩ | ⟨h5,h6⟩
      ·exact .inl ⟨rfl,h5,h6⟩
      ·exact .inr (.inl ⟨rfl,h5,h6⟩)
     ·exact (C8a g l2 W5 aG hb2 path2 bO (d+1) r5).mono fun e w6 ⟨h1,h2,h3⟩=>⟨.e,l2,aG,h1,trivial,h2,h3,.inr (.inr ⟨hb2,rfl⟩)⟩
    clear bK;go_wp2_with fail;rw[←aP,←bH];refine aO.mono ?_;rintro e w6 ⟨qr,l3,aA,rfl,aR,r6,g6,aV⟩;have aS:=Lib.hid aV;have A6:=A5.grown (w':=w6) (row:=some g) g6 (fun e=>by injection e with e;omega);have z6:=g6.size;have z5:=A5.lt;have G6:=G5.trans g6;clear aO aV bY bH e0 f0 aP K5 r5 A5 G5 g6;have cE:=Wd aQ;have cF:=Wd aR;have cG:=A3z ql;have bZ:=A3z qr;have cH:=r6.lt;have bC:=ql.form3;have bD:=qr.form3;have aH:D8x ql qr (ql.isE&&(qr.isE||qr.isLf)||qr.isE&&ql.isLf):=rfl;have aT:NdV ql qr (.iface 222 (.agg #[ql.val,qr.val])):=rfl;generalize ql.leafB=bl at *;generalize qr.leafB=br at *;generalize ql.val=vl at *;generalize qr.val=vr at *;generalize ql.isE=el at *;generalize qr.isE=er at *;generalize ql.isLf=fl at *;generalize qr.isLf=fr at *;rcases bC with ⟨rfl,rfl,rfl⟩ | ⟨tl,xl,rfl,rfl,rfl⟩ | ⟨tl,xl,rfl,rfl,rfl⟩<;>rcases bD with ⟨rfl,rfl,rfl⟩ | ⟨tr,xr,rfl,rfl,rfl⟩ | ⟨tr,xr,rfl,rfl,rfl⟩
    ·clear bZ;have aI:w6.cell? ⟨w3.heap.size,1,none⟩=some .nilIface:=A6.at_ rfl;have aJ:=A6.frozen 1;have k1:=Q4 (w6.setCell ⟨w3.heap.size,1,none⟩ .nilIface) 216 (z8 64) 64 w6.heap.size (by simp) (by simp);have k2:=Q4 (C2 ((w6.setCell ⟨w3.heap.size,1,none⟩ .nilIface).alloc (Obj.cells (c8 (z8 64)).toArray 216)) ⟨w6.heap.size,0,none⟩ (c8 bl)) 216 (z8 64) 64 (w6.heap.size+1) (by simp) (by simp);have A7:=A6.set_ 1 .nilIface;have aB:=(A7.alloc (Obj.cells (c8 (z8 64)).toArray 216)).putFar (p:=⟨w6.heap.size,0,none⟩) (by simp;omega) (c8 bl);have A9:=(aB.alloc (Obj.cells (c8 (z8 64)).toArray 216)).putFar (p:=⟨w6.heap.size+1,0,none⟩) (by simp;omega) (c8 bl);obtain⟨W9,aC⟩:∃x,x=C2 ((C2 ((w6.setCell ⟨w3.heap.size,1,none⟩ .nilIface).alloc (Obj.cells (c8 (z8 64)).toArray 216)) ⟨w6.heap.size,0,none⟩ (c8 bl)).alloc (Obj.cells (c8 (z8 64)).toArray 216)) ⟨w6.heap.size+1,0,none⟩ (c8 bl):=⟨_,rfl⟩;have B9:Below w.heap.size w6 W9:=by rw[aC];exact C0 (((C0 (((Below.refl _ _).setCell (show w.heap.size≤w3.heap.size by omega) _).alloc (by simp;omega) _) (show w.heap.size≤w6.heap.size by omega) _)).alloc (by simp;omega) _) (show w.heap.size≤w6.heap.size+1 by omega) _
     have r9:=r6.below B9 zg;have G9:=Ad G6 B9;have d0:=A7.at_ (i:=0) rfl;have d1:=A7.at_ (i:=1) rfl;have d2:=aB.at_ (i:=0) rfl;have d3:=aB.at_ (i:=1) rfl;have d4:=A9.at_ (i:=0) rfl;have d5:=A9.at_ (i:=1) rfl;rw[←aC]at A9;clear A7 aB B9 G6 r6;go_wp2_with fail;rw[←aC];clear aC d0 d1 d2 d3 d4 d5 k1 k2 aI aJ;refine (Bg g l3 W9 aA true r9).mono ?_;rintro e aK ⟨rfl,aL,aD⟩;have aE:=A9.grown (w':=aK) (row:=some g) aD (fun e=>by injection e with e;omega);have aM:=G9.trans aD;have d0:=aE.at_ (i:=0) rfl;have d1:=aE.at_ (i:=1) rfl;clear A9 r9 G9 aD;go_wp2_with fail;go_ret;refine ⟨aM,?_⟩;exact Ek aT aQ aR aH aL aN.out aS.out
    ·have aI:w6.cell? ⟨w3.heap.size,1,none⟩=some .nilIface:=A6.at_ rfl;have aJ:=A6.frozen 1;have k1:=Q4 (w6.setCell ⟨w3.heap.size,1,none⟩ (.iface tr xr)) 216 (z8 64) 64 w6.heap.size (by simp) (by simp);have k2:=Q4 (C2 ((w6.setCell ⟨w3.heap.size,1,none⟩ (.iface tr xr)).alloc (Obj.cells (c8 (z8 64)).toArray 216)) ⟨w6.heap.size,0,none⟩ (c8 bl)) 216 (z8 64) 64 (w6.heap.size+1) (by simp) (by simp);have A7:=A6.set_ 1 (.iface tr xr);have aB:=(A7.alloc (Obj.cells (c8 (z8 64)).toArray 216)).putFar (p:=⟨w6.heap.size,0,none⟩) (by simp;omega) (c8 bl);have A9:=(aB.alloc (Obj.cells (c8 (z8 64)).toArray 216)).putFar (p:=⟨w6.heap.size+1,0,none⟩) (by simp;omega) (c8 br);obtain⟨W9,aC⟩:∃x,x=C2 ((C2 ((w6.setCell ⟨w3.heap.size,1,none⟩ (.iface tr xr)).alloc (Obj.cells (c8 (z8 64)).toArray 216)) ⟨w6.heap.size,0,none⟩ (c8 bl)).alloc (Obj.cells (c8 (z8 64)).toArray 216)) ⟨w6.heap.size+1,0,none⟩ (c8 br):=⟨_,rfl⟩;have B9:Below w.heap.size w6 W9:=by rw[aC];exact C0 (((C0 (((Below.refl _ _).setCell (show w.heap.size≤w3.heap.size by omega) _).alloc (by simp;omega) _) (show w.heap.size≤w6.heap.size by omega) _)).alloc (by simp;omega) _) (show w.heap.size≤w6.heap.size+1 by omega) _
     have r9:=r6.below B9 zg;have G9:=Ad G6 B9;have d0:=A7.at_ (i:=0) rfl;have d1:=A7.at_ (i:=1) rfl;have d2:=aB.at_ (i:=0) rfl;have d3:=aB.at_ (i:=1) rfl;have d4:=A9.at_ (i:=0) rfl;have d5:=A9.at_ (i:=1) rfl;rw[←aC]at A9;clear A7 aB B9 G6 r6;go_wp2_with fail;rw[←aC];clear aC d0 d1 d2 d3 d4 d5 k1 k2 aI aJ;refine (Bg g l3 W9 aA true r9).mono ?_;rintro e aK ⟨rfl,aL,aD⟩;have aE:=A9.grown (w':=aK) (row:=some g) aD (fun e=>by injection e with e;omega);have aM:=G9.trans aD;have d0:=aE.at_ (i:=0) rfl;have d1:=aE.at_ (i:=1) rfl;clear A9 r9 G9 aD;go_wp2_with fail;go_ret;refine ⟨aM,?_⟩;exact Ek aT aQ aR aH aL aN.out aS.out
    ·have aI:w6.cell? ⟨w3.heap.size,1,none⟩=some .nilIface:=A6.at_ rfl;have aJ:=A6.frozen 1;have k1:=Q4 (w6.setCell ⟨w3.heap.size,1,none⟩ (.iface tr xr)) 216 (z8 64) 64 w6.heap.size (by simp) (by simp);have k2:=Q4 (C2 ((w6.setCell ⟨w3.heap.size,1,none⟩ (.iface tr xr)).alloc (Obj.cells (c8 (z8 64)).toArray 216)) ⟨w6.heap.size,0,none⟩ (c8 bl)) 216 (z8 64) 64 (w6.heap.size+1) (by simp) (by simp);have A7:=A6.set_ 1 (.iface tr xr);have aB:=(A7.alloc (Obj.cells (c8 (z8 64)).toArray 216)).putFar (p:=⟨w6.heap.size,0,none⟩) (by simp;omega) (c8 bl);have A9:=(aB.alloc (Obj.cells (c8 (z8 64)).toArray 216)).putFar (p:=⟨w6.heap.size+1,0,none⟩) (by simp;omega) (c8 br);obtain⟨W9,aC⟩:∃x,x=C2 ((C2 ((w6.setCell ⟨w3.heap.size,1,none⟩ (.iface tr xr)).alloc (Obj.cells (c8 (z8 64)).toArray 216)) ⟨w6.heap.size,0,none⟩ (c8 bl)).alloc (Obj.cells (c8 (z8 64)).toArray 216)) ⟨w6.heap.size+1,0,none⟩ (c8 br):=⟨_,rfl⟩;have B9:Below w.heap.size w6 W9:=by rw[aC];exact C0 (((C0 (((Below.refl _ _).setCell (show w.heap.size≤w3.heap.size by omega) _).alloc (by simp;omega) _) (show w.heap.size≤w6.heap.size by omega) _)).alloc (by simp;omega) _) (show w.heap.size≤w6.heap.size+1 by omega) _
     have r9:=r6.below B9 zg;have G9:=Ad G6 B9;have d0:=A7.at_ (i:=0) rfl;have d1:=A7.at_ (i:=1) rfl;have d2:=aB.at_ (i:=0) rfl;have d3:=aB.at_ (i:=1) rfl;have d4:=A9.at_ (i:=0) rfl;have d5:=A9.at_ (i:=1) rfl;rw[←aC]at A9;clear A7 aB B9 G6 r6;go_wp2_with fail;rw[←aC];clear aC d0 d1 d2 d3 d4 d5 k1 k2 aI aJ;refine (Bg g l3 W9 aA false r9).mono ?_;rintro e aK ⟨rfl,aL,aD⟩;have aE:=A9.grown (w':=aK) (row:=some g) aD (fun e=>by injection e with e;omega);have aM:=G9.trans aD;have d0:=aE.at_ (i:=0) rfl;have d1:=aE.at_ (i:=1) rfl;clear A9 r9 G9 aD;go_wp2_with fail;go_ret;refine ⟨aM,?_⟩;exact Ek aT aQ aR aH aL aN.out aS.out
    ·have aI:w6.cell? ⟨w3.heap.size,1,none⟩=some .nilIface:=A6.at_ rfl;have aJ:=A6.frozen 1;have k1:=Q4 (w6.setCell ⟨w3.heap.size,1,none⟩ .nilIface) 216 (z8 64) 64 w6.heap.size (by simp) (by simp);have k2:=Q4 (C2 ((w6.setCell ⟨w3.heap.size,1,none⟩ .nilIface).alloc (Obj.cells (c8 (z8 64)).toArray 216)) ⟨w6.heap.size,0,none⟩ (c8 bl)) 216 (z8 64) 64 (w6.heap.size+1) (by simp) (by simp);have A7:=A6.set_ 1 .nilIface;have aB:=(A7.alloc (Obj.cells (c8 (z8 64)).toArray 216)).putFar (p:=⟨w6.heap.size,0,none⟩) (by simp;omega) (c8 bl);have A9:=(aB.alloc (Obj.cells (c8 (z8 64)).toArray 216)).putFar (p:=⟨w6.heap.size+1,0,none⟩) (by simp;omega) (c8 br);obtain⟨W9,aC⟩:∃x,x=C2 ((C2 ((w6.setCell ⟨w3.heap.size,1,none⟩ .nilIface).alloc (Obj.cells (c8 (z8 64)).toArray 216)) ⟨w6.heap.size,0,none⟩ (c8 bl)).alloc (Obj.cells (c8 (z8 64)).toArray 216)) ⟨w6.heap.size+1,0,none⟩ (c8 br):=⟨_,rfl⟩;have B9:Below w.heap.size w6 W9:=by rw[aC];exact C0 (((C0 (((Below.refl _ _).setCell (show w.heap.size≤w3.heap.size by omega) _).alloc (by simp;omega) _) (show w.heap.size≤w6.heap.size by omega) _)).alloc (by simp;omega) _) (show w.heap.size≤w6.heap.size+1 by omega) _
     have r9:=r6.below B9 zg;have G9:=Ad G6 B9;have d0:=A7.at_ (i:=0) rfl;have d1:=A7.at_ (i:=1) rfl;have d2:=aB.at_ (i:=0) rfl;have d3:=aB.at_ (i:=1) rfl;have d4:=A9.at_ (i:=0) rfl;have d5:=A9.at_ (i:=1) rfl;rw[←aC]at A9;clear A7 aB B9 G6 r6;go_wp2_with fail;rw[←aC];clear aC d0 d1 d2 d3 d4 d5 k1 k2 aI aJ;refine (Bg g l3 W9 aA true r9).mono ?_;rintro e aK ⟨rfl,aL,aD⟩;have aE:=A9.grown (w':=aK) (row:=some g) aD (fun e=>by injection e with e;omega);have aM:=G9.trans aD;have d0:=aE.at_ (i:=0) rfl;have d1:=aE.at_ (i:=1) rfl;clear A9 r9 G9 aD;go_wp2_with fail;go_ret;refine ⟨aM,?_⟩;exact Ek aT aQ aR aH aL aN.out aS.out
    ·have aI:w6.cell? ⟨w3.heap.size,1,none⟩=some .nilIface:=A6.at_ rfl;have aJ:=A6.frozen 1;have k1:=Q4 (w6.setCell ⟨w3.heap.size,1,none⟩ (.iface tr xr)) 216 (z8 64) 64 w6.heap.size (by simp) (by simp);have k2:=Q4 (C2 ((w6.setCell ⟨w3.heap.size,1,none⟩ (.iface tr xr)).alloc (Obj.cells (c8 (z8 64)).toArray 216)) ⟨w6.heap.size,0,none⟩ (c8 bl)) 216 (z8 64) 64 (w6.heap.size+1) (by simp) (by simp);have A7:=A6.set_ 1 (.iface tr xr);have aB:=(A7.alloc (Obj.cells (c8 (z8 64)).toArray 216)).putFar (p:=⟨w6.heap.size,0,none⟩) (by simp;omega) (c8 bl);have A9:=(aB.alloc (Obj.cells (c8 (z8 64)).toArray 216)).putFar (p:=⟨w6.heap.size+1,0,none⟩) (by simp;omega) (c8 br);obtain⟨W9,aC⟩:∃x,x=C2 ((C2 ((w6.setCell ⟨w3.heap.size,1,none⟩ (.iface tr xr)).alloc (Obj.cells (c8 (z8 64)).toArray 216)) ⟨w6.heap.size,0,none⟩ (c8 bl)).alloc (Obj.cells (c8 (z8 64)).toArray 216)) ⟨w6.heap.size+1,0,none⟩ (c8 br):=⟨_,rfl⟩;have B9:Below w.heap.size w6 W9:=by rw[aC];exact C0 (((C0 (((Below.refl _ _).setCell (show w.heap.size≤w3.heap.size by omega) _).alloc (by simp;omega) _) (show w.heap.size≤w6.heap.size by omega) _)).alloc (by simp;omega) _) (show w.heap.size≤w6.heap.size+1 by omega) _
     have r9:=r6.below B9 zg;have G9:=Ad G6 B9;have d0:=A7.at_ (i:=0) rfl;have d1:=A7.at_ (i:=1) rfl;have d2:=aB.at_ (i:=0) rfl;have d3:=aB.at_ (i:=1) rfl;have d4:=A9.at_ (i:=0) rfl;have d5:=A9.at_ (i:=1) rfl;rw[←aC]at A9;clear A7 aB B9 G6 r6;go_wp2_with fail;rw[←aC];clear aC d0 d1 d2 d3 d4 d5 k1 k2 aI aJ;refine (Bg g l3 W9 aA false r9).mono ?_;rintro e aK ⟨rfl,aL,aD⟩;have aE:=A9.grown (w':=aK) (row:=some g) aD (fun e=>by injection e with e;omega);have aM:=G9.trans aD;have d0:=aE.at_ (i:=0) rfl;have d1:=aE.at_ (i:=1) rfl;clear A9 r9 G9 aD;go_wp2_with fail;go_ret;refine ⟨aM,?_⟩;exact Ek aT aQ aR aH aL aN.out aS.out
    ·have aI:w6.cell? ⟨w3.heap.size,1,none⟩=some .nilIface:=A6.at_ rfl;have aJ:=A6.frozen 1;have k1:=Q4 (w6.setCell ⟨w3.heap.size,1,none⟩ (.iface tr xr)) 216 (z8 64) 64 w6.heap.size (by simp) (by simp);have k2:=Q4 (C2 ((w6.setCell ⟨w3.heap.size,1,none⟩ (.iface tr xr)).alloc (Obj.cells (c8 (z8 64)).toArray 216)) ⟨w6.heap.size,0,none⟩ (c8 bl)) 216 (z8 64) 64 (w6.heap.size+1) (by simp) (by simp);have A7:=A6.set_ 1 (.iface tr xr);have aB:=(A7.alloc (Obj.cells (c8 (z8 64)).toArray 216)).putFar (p:=⟨w6.heap.size,0,none⟩) (by simp;omega) (c8 bl);have A9:=(aB.alloc (Obj.cells (c8 (z8 64)).toArray 216)).putFar (p:=⟨w6.heap.size+1,0,none⟩) (by simp;omega) (c8 br);obtain⟨W9,aC⟩:∃x,x=C2 ((C2 ((w6.setCell ⟨w3.heap.size,1,none⟩ (.iface tr xr)).alloc (Obj.cells (c8 (z8 64)).toArray 216)) ⟨w6.heap.size,0,none⟩ (c8 bl)).alloc (Obj.cells (c8 (z8 64)).toArray 216)) ⟨w6.heap.size+1,0,none⟩ (c8 br):=⟨_,rfl⟩;have B9:Below w.heap.size w6 W9:=by rw[aC];exact C0 (((C0 (((Below.refl _ _).setCell (show w.heap.size≤w3.heap.size by omega) _).alloc (by simp;omega) _) (show w.heap.size≤w6.heap.size by omega) _)).alloc (by simp;omega) _) (show w.heap.size≤w6.heap.size+1 by omega) _
     have r9:=r6.below B9 zg;have G9:=Ad G6 B9;have d0:=A7.at_ (i:=0) rfl;have d1:=A7.at_ (i:=1) rfl;have d2:=aB.at_ (i:=0) rfl;have d3:=aB.at_ (i:=1) rfl;have d4:=A9.at_ (i:=0) rfl;have d5:=A9.at_ (i:=1) rfl;rw[←aC]at A9;clear A7 aB B9 G6 r6;go_wp2_with fail;rw[←aC];clear aC d0 d1 d2 d3 d4 d5 k1 k2 aI aJ;refine (Bg g l3 W9 aA false r9).mono ?_;rintro e aK ⟨rfl,aL,aD⟩;have aE:=A9.grown (w':=aK) (row:=some g) aD (fun e=>by injection e with e;omega);have aM:=G9.trans aD;have d0:=aE.at_ (i:=0) rfl;have d1:=aE.at_ (i:=1) rfl;clear A9 r9 G9 aD;go_wp2_with fail;go_ret;refine ⟨aM,?_⟩;exact Ek aT aQ aR aH aL aN.out aS.out
    ·have aI:w6.cell? ⟨w3.heap.size,1,none⟩=some .nilIface:=A6.at_ rfl;have aJ:=A6.frozen 1;have k1:=Q4 (w6.setCell ⟨w3.heap.size,1,none⟩ .nilIface) 216 (z8 64) 64 w6.heap.size (by simp) (by simp);have k2:=Q4 (C2 ((w6.setCell ⟨w3.heap.size,1,none⟩ .nilIface).alloc (Obj.cells (c8 (z8 64)).toArray 216)) ⟨w6.heap.size,0,none⟩ (c8 bl)) 216 (z8 64) 64 (w6.heap.size+1) (by simp) (by simp);have A7:=A6.set_ 1 .nilIface;have aB:=(A7.alloc (Obj.cells (c8 (z8 64)).toArray 216)).putFar (p:=⟨w6.heap.size,0,none⟩) (by simp;omega) (c8 bl);have A9:=(aB.alloc (Obj.cells (c8 (z8 64)).toArray 216)).putFar (p:=⟨w6.heap.size+1,0,none⟩) (by simp;omega) (c8 br);obtain⟨W9,aC⟩:∃x,x=C2 ((C2 ((w6.setCell ⟨w3.heap.size,1,none⟩ .nilIface).alloc (Obj.cells (c8 (z8 64)).toArray 216)) ⟨w6.heap.size,0,none⟩ (c8 bl)).alloc (Obj.cells (c8 (z8 64)).toArray 216)) ⟨w6.heap.size+1,0,none⟩ (c8 br):=⟨_,rfl⟩;have B9:Below w.heap.size w6 W9:=by rw[aC];exact C0 (((C0 (((Below.refl _ _).setCell (show w.heap.size≤w3.heap.size by omega) _).alloc (by simp;omega) _) (show w.heap.size≤w6.heap.size by omega) _)).alloc (by simp;omega) _) (show w.heap.size≤w6.heap.size+1 by omega) _
     have r9:=r6.below B9 zg;have G9:=Ad G6 B9;have d0:=A7.at_ (i:=0) rfl;have d1:=A7.at_ (i:=1) rfl;have d2:=aB.at_ (i:=0) rfl;have d3:=aB.at_ (i:=1) rfl;have d4:=A9.at_ (i:=0) rfl;have d5:=A9.at_ (i:=1) rfl;rw[←aC]at A9;clear A7 aB B9 G6 r6;go_wp2_with fail;rw[←aC];clear aC d0 d1 d2 d3 d4 d5 k1 k2 aI aJ;refine (Bg g l3 W9 aA false r9).mono ?_;rintro e aK ⟨rfl,aL,aD⟩;have aE:=A9.grown (w':=aK) (row:=some g) aD (fun e=>by injection e with e;omega);have aM:=G9.trans aD;have d0:=aE.at_ (i:=0) rfl;have d1:=aE.at_ (i:=1) rfl;clear A9 r9 G9 aD;go_wp2_with fail;go_ret;refine ⟨aM,?_⟩;exact Ek aT aQ aR aH aL aN.out aS.out
    ·have aI:w6.cell? ⟨w3.heap.size,1,none⟩=some .nilIface:=A6.at_ rfl;have aJ:=A6.frozen 1;have k1:=Q4 (w6.setCell ⟨w3.heap.size,1,none⟩ (.iface tr xr)) 216 (z8 64) 64 w6.heap.size (by simp) (by simp);have k2:=Q4 (C2 ((w6.setCell ⟨w3.heap.size,1,none⟩ (.iface tr xr)).alloc (Obj.cells (c8 (z8 64)).toArray 216)) ⟨w6.heap.size,0,none⟩ (c8 bl)) 216 (z8 64) 64 (w6.heap.size+1) (by simp) (by simp);have A7:=A6.set_ 1 (.iface tr xr);have aB:=(A7.alloc (Obj.cells (c8 (z8 64)).toArray 216)).putFar (p:=⟨w6.heap.size,0,none⟩) (by simp;omega) (c8 bl);have A9:=(aB.alloc (Obj.cells (c8 (z8 64)).toArray 216)).putFar (p:=⟨w6.heap.size+1,0,none⟩) (by simp;omega) (c8 br);obtain⟨W9,aC⟩:∃x,x=C2 ((C2 ((w6.setCell ⟨w3.heap.size,1,none⟩ (.iface tr xr)).alloc (Obj.cells (c8 (z8 64)).toArray 216)) ⟨w6.heap.size,0,none⟩ (c8 bl)).alloc (Obj.cells (c8 (z8 64)).toArray 216)) ⟨w6.heap.size+1,0,none⟩ (c8 br):=⟨_,rfl⟩;have B9:Below w.heap.size w6 W9:=by rw[aC];exact C0 (((C0 (((Below.refl _ _).setCell (show w.heap.size≤w3.heap.size by omega) _).alloc (by simp;omega) _) (show w.heap.size≤w6.heap.size by omega) _)).alloc (by simp;omega) _) (show w.heap.size≤w6.heap.size+1 by omega) _
     have r9:=r6.below B9 zg;have G9:=Ad G6 B9;have d0:=A7.at_ (i:=0) rfl;have d1:=A7.at_ (i:=1) rfl;have d2:=aB.at_ (i:=0) rfl;have d3:=aB.at_ (i:=1) rfl;have d4:=A9.at_ (i:=0) rfl;have d5:=A9.at_ (i:=1) rfl;rw[←aC]at A9;clear A7 aB B9 G6 r6;go_wp2_with fail;rw[←aC];clear aC d0 d1 d2 d3 d4 d5 k1 k2 aI aJ;refine (Bg g l3 W9 aA false r9).mono ?_;rintro e aK ⟨rfl,aL,aD⟩;have aE:=A9.grown (w':=aK) (row:=some g) aD (fun e=>by injection e with e;omega);have aM:=G9.trans aD;have d0:=aE.at_ (i:=0) rfl;have d1:=aE.at_ (i:=1) rfl;clear A9 r9 G9 aD;go_wp2_with fail;go_ret;refine ⟨aM,?_⟩;exact Ek aT aQ aR aH aL aN.out aS.out
    ·have aI:w6.cell? ⟨w3.heap.size,1,none⟩=some .nilIface:=A6.at_ rfl;have aJ:=A6.frozen 1;have k1:=Q4 (w6.setCell ⟨w3.heap.size,1,none⟩ (.iface tr xr)) 216 (z8 64) 64 w6.heap.size (by simp) (by simp);have k2:=Q4 (C2 ((w6.setCell ⟨w3.heap.size,1,none⟩ (.iface tr xr)).alloc (Obj.cells (c8 (z8 64)).toArray 216)) ⟨w6.heap.size,0,none⟩ (c8 bl)) 216 (z8 64) 64 (w6.heap.size+1) (by simp) (by simp);have A7:=A6.set_ 1 (.iface tr xr);have aB:=(A7.alloc (Obj.cells (c8 (z8 64)).toArray 216)).putFar (p:=⟨w6.heap.size,0,none⟩) (by simp;omega) (c8 bl);have A9:=(aB.alloc (Obj.cells (c8 (z8 64)).toArray 216)).putFar (p:=⟨w6.heap.size+1,0,none⟩) (by simp;omega) (c8 br);obtain⟨W9,aC⟩:∃x,x=C2 ((C2 ((w6.setCell ⟨w3.heap.size,1,none⟩ (.iface tr xr)).alloc (Obj.cells (c8 (z8 64)).toArray 216)) ⟨w6.heap.size,0,none⟩ (c8 bl)).alloc (Obj.cells (c8 (z8 64)).toArray 216)) ⟨w6.heap.size+1,0,none⟩ (c8 br):=⟨_,rfl⟩;have B9:Below w.heap.size w6 W9:=by rw[aC];exact C0 (((C0 (((Below.refl _ _).setCell (show w.heap.size≤w3.heap.size by omega) _).alloc (by simp;omega) _) (show w.heap.size≤w6.heap.size by omega) _)).alloc (by simp;omega) _) (show w.heap.size≤w6.heap.size+1 by omega) _
     have r9:=r6.below B9 zg;have G9:=Ad G6 B9;have d0:=A7.at_ (i:=0) rfl;have d1:=A7.at_ (i:=1) rfl;have d2:=aB.at_ (i:=0) rfl;have d3:=aB.at_ (i:=1) rfl;have d4:=A9.at_ (i:=0) rfl;have d5:=A9.at_ (i:=1) rfl;rw[←aC]at A9;clear A7 aB B9 G6 r6;go_wp2_with fail;rw[←aC];clear aC d0 d1 d2 d3 d4 d5 k1 k2 aI aJ;refine (Bg g l3 W9 aA false r9).mono ?_;rintro e aK ⟨rfl,aL,aD⟩;have aE:=A9.grown (w':=aK) (row:=some g) aD (fun e=>by injection e with e;omega);have aM:=G9.trans aD;have d0:=aE.at_ (i:=0) rfl;have d1:=aE.at_ (i:=1) rfl;clear A9 r9 G9 aD;go_wp2_with fail;go_ret;refine ⟨aM,?_⟩;exact Ek aT aQ aR aH aL aN.out aS.out
  by_cases e3:k=3
  ·
   subst e3;rw[show ((3:UInt8)==0)=false from rfl]at q0;rw[show ((3:UInt8)==1)=false from rfl]at q1;rw[show ((3:UInt8)==2)=false from rfl]at q2;rw[show ((3:UInt8)==3)=true from rfl]at q3;have aF:rd f way (3::b)=if b.length<32 then .error 10 else .ok (.hd (b.take 32),b.drop 32):=by cases f<;>rfl
   have HR:=Lib.hid aF;clear aF;go_wp2_with fail;refine (A1f g b w1 0 r1).mono ?_;rintro e w2 ⟨x,l',cA,rfl,hx,r2,g2,hc⟩;have HC:=Lib.hid hc;clear hc;go_wp2_with fail;go_ret;refine ⟨G1.trans g2,?_⟩;rw[HR.out];rcases HC.out with ⟨_,hl,rfl,rfl,rfl⟩ | ⟨_,hl,rfl⟩ | ⟨hl,_⟩
   ·rw[if_neg (by omega)];exact ⟨rfl,r2⟩
   ·rw[if_pos hl];exact ⟨.hd x,l',rfl,r2,hx⟩
   ·exact absurd rfl hl
  ·
   have f0:(k==0)=false:=by simpa using e0
   have f1:(k==1)=false:=by simpa using e1
   have f2:(k==2)=false:=by simpa using e2
   have f3:(k==3)=false:=by simpa using e3
   rw[f0]at q0;rw[f1]at q1;rw[f2]at q2;rw[f3]at q3;have aF:rd f way (k::b)=.error 13:=by cases f<;>simp only[rd,rd1,e0,e1,e2,e3,if_false]
   go_wp2_with fail;refine (Bg g b w1 0 true r1).mono ?_;rintro e w2 ⟨rfl,r2,g2⟩;go_wp2_with fail;go_ret;rw[aF];exact ⟨G1.trans g2,.e,b,rfl,r2,trivial⟩
end
theorem C6z (g:Nat):∀(f:Nat) (way:List Bool) (path:List UInt8),path.length=32→(∀i,i<256→E3 path i=Eg way i)→f+way.length=256→∀(l:List UInt8) (w:World),Ks w g l 0→
 Calls Tryz.prog 132 #[.pointer (some ⟨g,0,none⟩),A8 path,.int .i64 (way.length:Int)] w fun e w'=>w.grownBy w' (some g)∧Us g (rd f way l) e w':=by
 intro f;induction f with
 | zero=>intro way path hp hw hf l w h;exact A6f g 0 way path hp hw hf (fun f' e=>by omega) l w h
 | succ f ih=>
  intro way path hp hw hf l w h;refine A6f g (f+1) way path hp hw hf (fun f' e=>?_) l w h;have:f=f':=by omega
  subst this;exact ih
end
end Go.Proofs.YtmllnpokbbabhaaGreat
