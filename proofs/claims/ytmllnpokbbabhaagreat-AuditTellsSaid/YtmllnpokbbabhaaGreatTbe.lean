/- A part of the proof of AuditTells. -/
import Derived.Test.YtmllnpokbbabhaaGreatTbb
import Derived.Test.YtmllnpokbbabhaaGreatTba
set_option linter.unusedVariables false
set_option linter.unusedSimpArgs false
set_option maxRecDepth 100000
set_option maxHeartbeats 40000000
namespace Go.Proofs.YtmllnpokbbabhaaGreat
open Go Go.RowKit Sh
def Dm (l:List UInt8):Except Nat Pt:=match rd 256 [] l with
 | .error n=>.error n
 | .ok (p,[])=>.ok p
 | .ok (_,_::_)=>.error 11
def Ou (r:Except Nat Pt) (q:Pt) (n:Int):Prop:=match r with | .ok p=>q=p∧n=0 | .error m=>q=.e∧n=(m:Int)
theorem C3q (i:Nat):E3 (z8 32) i=false:=by
 rw[Ky];have:g8 (z8 32) (i / 8)=0:=by
  unfold g8 z8;rw[List.getD_eq_getElem?_getD,List.getElem?_replicate];split<;>rfl
 rw[this];simp
theorem A6a (v:Value) (l:List UInt8) (w:World) (hv:By w 0 w.heap.size v l) :
 Calls Tryz.prog 83 #[v] w fun e w'=>∃(q:Pt) (n:Int),e=.returned (.tuple #[.agg #[q.val],.int .i64 n])∧Ou (Dm l) q n∧Below w.heap.size w w':=by
 obtain⟨W0,aB⟩:=D9 ((w.alloc (Obj.cells #[.nilIface] 95)).alloc (Obj.cells #[v,.int .i64 0] 227));have B0:Below w.heap.size w W0:=by rw[aB];exact (U7 _ _).alloc (by simp) _
 have R0:Bk W0 w.heap.size 95 [.nilIface]:=by rw[aB];exact (Bk.new w _ [_]).alloc _
 have K0:Bk W0 (w.heap.size+1) 227 [v,.int .i64 0]:=by rw[aB];simpa using Bk.new (w.alloc (Obj.cells #[.nilIface] 95)) 227 [v,.int .i64 0]
 have r0:Ks W0 (w.heap.size+1) l 0:=⟨v,K0,(hv.below B0).more (by omega)⟩;have hn:=C6z (w.heap.size+1) 256 [] (z8 32) (by simp) (fun i hi=>by rw[C3q];rfl) rfl l W0 r0;obtain⟨A,c,aF,aK,aL,_⟩:=hv.open_;subst aF;go_enter Tryz.func83,Tryz.ntmps83;go_wp2_with fail;rw[←aB];clear aB;refine hn.mono ?_;rintro e w1 ⟨g1,hN⟩;obtain⟨q,l1,aA,rfl,hw,r1,hc⟩:=Kj (way:=[]) rfl hN;clear hn hN r0 K0;have R1:=R0.grown (w':=w1) (row:=some (w.heap.size+1)) g1 (fun e=>by injection e with e;omega);have B1:=B0.grown g1 B0.size (fun k hk=>by injection hk with hk;omega);have HC:=Lib.hid hc;have aM:0≤aA:=by rcases hc with ⟨rfl,_⟩ | ⟨_,n,_,rfl⟩<;>omega
 clear hc g1;obtain⟨u,K1,hu⟩:=r1;obtain⟨A1,aD,rfl,aG,aH,_⟩:=hu.open_;have d0:=K1.at_ (i:=0) rfl;have d1:=K1.at_ (i:=1) rfl;have f1:=K1.frozen 1;have p0:=R1.at_ (i:=0) rfl;have pf:=R1.frozen 0;by_cases hb:aA=0
 ·subst hb;by_cases hl:l1=[]
  ·subst hl;have aC:Ou (Dm l) q 0:=by
    rcases HC.out with ⟨_,hr⟩ | ⟨h,_⟩
    ·unfold Ou Dm;rw[hr];exact ⟨rfl,rfl⟩
    ·exact absurd rfl h
   rcases q.form with hq | ⟨tq,xq,hq⟩
   ·rw[hq];go_wp2_with fail;exact bodyPost_ret (C8 rfl (C5.row (R1.set_ 0 .nilIface) rfl _ Tryz.underlying95 rfl (by kernel_rfl)) (C5.tmp rfl)) rfl ⟨q,0,by rw[hq];rfl,aC,B1.setCell (by simp) _⟩
   ·rw[hq];go_wp2_with fail;exact bodyPost_ret (C8 rfl (C5.row (R1.set_ 0 (.iface tq xq)) rfl _ Tryz.underlying95 rfl (by kernel_rfl)) (C5.tmp rfl)) rfl ⟨q,0,by rw[hq];rfl,aC,B1.setCell (by simp) _⟩
  ·have aN:=List.length_pos_iff.2 hl;have aO:decide ((l1.length:Int) > 0)=true:=decide_eq_true (by omega);have K2:=K1.set_ 1 (.int .i64 11);have R2:=R1.far (p:=⟨w.heap.size+1,1,none⟩) (by simp) (.int .i64 11);have B2:Below w.heap.size w (w1.setCell ⟨w.heap.size+1,1,none⟩ (.int .i64 11)):=B1.setCell (show w.heap.size≤w.heap.size+1 by omega) _;obtain⟨W2,aE⟩:=D9 (w1.setCell ⟨w.heap.size+1,1,none⟩ (.int .i64 11));have e1:=K2.at_ (i:=1) rfl;rw[←aE]at K2 R2 B2;go_wp2_with fail;rw[←aE];clear aE e1 d0 d1 f1 p0 pf K1 R1 B1;have p1:W2.drew.cell? ⟨w.heap.size,0,none⟩=some .nilIface:=R2.at_ rfl;have aI:=R2.frozen 0;have S0:Bk W2.drew (w.heap.size+1) 227 [.slice A1 l1.length aD,.int .i64 11]∧Bk W2.drew w.heap.size 95 [.nilIface]:=⟨K2.drew,R2.drew⟩;refine Ij (fun W=>Bk W (w.heap.size+1) 227 [.slice A1 l1.length aD,.int .i64 11]∧Bk W w.heap.size 95 [.nilIface]) ?_;refine Cn (A:=?A2) [0,1,2,3,4] S0 (fun W hW=>?h2) ?r2;case h2=>have d1:=hW.1.at_ (i:=1) rfl;exact Fa
   case r2=>
    refine Q6 5 fun Q' hQ'=>?_;dsimp only[C6];go_wp2_with fail;refine hQ' _ _ ⟨S0.1.far (by simp) _,S0.2.set_ 0 .nilIface⟩ ?_;clear hQ';refine Q6 6 fun Q' hQ'=>?_;dsimp only[C6];go_wp2_with fail;refine hQ' _ _ ⟨S0.1.far (by simp) _,S0.2.set_ 0 .nilIface⟩ ?_;clear hQ';refine Gn ?_;go_wp2_with fail;refine bodyPost_ret (C8 rfl (C5.row (S0.2.set_ 0 .nilIface) rfl _ Tryz.underlying95 rfl (by kernel_rfl)) (C5.tmp rfl)) rfl ⟨.e,11,rfl,?_,B2.drew.setCell (by simp) _⟩;rcases HC.out with ⟨_,hr⟩ | ⟨h,_⟩
    ·unfold Ou Dm;rw[hr];cases l1 with
     | nil=>exact absurd rfl hl
     | cons x r=>exact ⟨rfl,rfl⟩
    ·exact absurd rfl h
 ·have aP:=beq_eq_false_iff_ne.2 hb;have aJ:(aA != 0)=true:=by simp[hb]
  go_wp2_with fail;have S0:Bk w1.drew (w.heap.size+1) 227 [.slice A1 l1.length aD,.int .i64 aA]∧Bk w1.drew w.heap.size 95 [.nilIface]:=⟨K1.drew,R1.drew⟩;have p1:w1.drew.cell? ⟨w.heap.size,0,none⟩=some .nilIface:=p0;have aI:w1.drew.frozen? ⟨w.heap.size,0,none⟩=false:=pf;refine Ij (fun W=>Bk W (w.heap.size+1) 227 [.slice A1 l1.length aD,.int .i64 aA]∧Bk W w.heap.size 95 [.nilIface]) ?_;refine Cn (A:=?A1) [0,1,2,3,4] S0 (fun W hW=>?h1) ?r1;case h1=>
   have d1:=hW.1.at_ (i:=1) rfl;exact Fa
  case r1=>
   refine Q6 5 fun Q' hQ'=>?_;dsimp only[C6];go_wp2_with fail;refine hQ' _ _ ⟨S0.1.far (by simp) _,S0.2.set_ 0 .nilIface⟩ ?_;clear hQ';refine Q6 6 fun Q' hQ'=>?_;dsimp only[C6];go_wp2_with fail;refine hQ' _ _ ⟨S0.1.far (by simp) _,S0.2.set_ 0 .nilIface⟩ ?_;clear hQ';refine Gn ?_;go_wp2_with fail;refine bodyPost_ret (C8 rfl (C5.row (S0.2.set_ 0 .nilIface) rfl _ Tryz.underlying95 rfl (by kernel_rfl)) (C5.tmp rfl)) rfl ⟨.e,aA,rfl,?_,B1.drew.setCell (by simp) _⟩;rcases HC.out with ⟨h,_⟩ | ⟨_,n,hr,hbn⟩
   ·exact absurd h hb
   ·unfold Ou Dm;rw[hr];exact ⟨rfl,hbn⟩
theorem B2j {p:Pt} {P:Nat→Bool} (ok:p.Ok 0 P) (ht:p.Tight):Dm p.bytes=.ok p:=by
 have h:=B4b 256 [] p [] rfl (ok.congr fun i hi=>by simp at hi) ht;rw[List.append_nil]at h;unfold Dm;rw[h]
def D4d (ks:List (List UInt8)):Option (List UInt8):=if ks.length=0 then none else some (W8 ks)
end Go.Proofs.YtmllnpokbbabhaaGreat
