/- A part of the proof of ClientForks. -/
import Derived.ArgAppend
import Derived.Test.YtdfpoofbgjilgaaGreatVar
set_option linter.unusedVariables false
set_option linter.unusedSimpArgs false
set_option maxRecDepth 100000
set_option maxHeartbeats 40000000
namespace Go.Proofs.YtdfpoofbgjilgaaGreat
open Go Go.RowKit Sh
section
theorem B8b (w:World):(sizeOf 160).run Tryz.prog w=.ok 20 w:=by kernel_rfl
theorem C0t (xs:List UInt64) (o:Nat) (w:World):(part 160 (E4 xs).toArray o).run Tryz.prog w=.ok (F8 ((xs.drop o).take 20)) w:=by
 simp[part,isAgg,run_underlying Pm,B8b,F8,E4,List.extract_eq_take_drop]
theorem D1u {ps:List Pn} (h:Ei ps) {i:Nat} (hi:i<32) (hl:ps.length=32) (w:World):(Instr.index 269 (F8 (Pl ps)) (.int .i64 (i:Int))).run Tryz.prog w=.ok (Du ps i).val w:=by
 rw[←Pn.seg];show _=Result.ok (F8 (ps.getD i Af).row) w;rw[←C8q i h (by omega)];have h6:¬ 32≤i:=by omega
 have e1:=C0t (Pl ps) (i*20) w;simp[F8,Instr.index,run_underlying Tryz.underlying269,asIntOf,hi,h6,B8b,C0t]
def C2b (n:List UInt8) (i s:Nat):Bool:=g8 n i >>> UInt8.ofNat s &&& 1==1
noncomputable def U0 (n:List UInt8) (s:Nat) (r:Pn):Nat→Pn
 | 0=>r
 | i+1=>if C2b n i s then Fv (U0 n s r i) (Fj i) T3 else U0 n s r i
theorem Bq (n:List UInt8) (s:Nat) {r:Pn} (hr:r.Ok):∀i,(U0 n s r i).Ok
 | 0=>hr
 | i+1=>by
  unfold U0;split
  ·exact Cs _ _ _
  ·exact Bq n s hr i
theorem A9a {n:List UInt8} {s:Nat} {r:Pn} {i:Nat} (hb:C2b n i s=true) (hi:i<32):U0 n s r (i+1)=Fv (U0 n s r i) (Du Sn i) T3:=by
 rw[D5s hi];exact if_pos hb
theorem B7a {n:List UInt8} {s:Nat} {r:Pn} {i:Nat} (hb:C2b n i s=false):U0 n s r (i+1)=U0 n s r i:=if_neg (by rw[hb];decide)
noncomputable def Bd (n:List UInt8):Nat→Pn
 | 0=>N8 Af
 | m+1=>U0 n (7-m) (Ob (Bd n m)) 32
theorem Jz (n:List UInt8):∀m,(Bd n m).Ok
 | 0=>Q4 Bw
 | m+1=>Bq n _ (Yf _) 32
noncomputable def A2m (n:List UInt8):Pn:=Bd n 8
theorem A3j (n:List UInt8):(A2m n).Ok:=Jz n 8
set_option maxRecDepth 100000
theorem C6t {s:Nat} (h:s<8) (W:World):(convert 3 24 (.int .i64 (s:Int))).run Tryz.prog W=.ok (.int .u64 (s:Int)) W:=by
 have e:IntKind.u64.wrap (s:Int)=(s:Int):=IntWalk.u64_in _ (by omega);have h1:(convert 3 24 (.int .i64 (s:Int))).run Tryz.prog W=.ok (.int .u64 (IntKind.u64.wrap (s:Int))) W:=by kernel_rfl
 rw[h1,e]
def C9y:List (Nat×TypeId×List Sg):=[(0,35,[.m 0 32]),(1,160,List.replicate 20 (.c (.int .u64 0))),(3,158,[.m 1 5]),(6,269,[.m 2 640]),(10,160,[.m 3 5,.m 4 5,.m 5 5,.m 6 5])]
def C7k:List (Nat×SV):=[(1,.v false [.p 0 0]),(2,.v false [.p 1 0]),(3,.v false [.p 3 0]),(4,.v false [.p 6 0]),(5,.v false [.p 10 0]),(6,.v false [.m 7 1])]
def A7a:St:=D6x 38 13 C7k C9y
def E1a:St:=D6x 38 13 (C7k++[(19,.v true [.m 2 640]),(20,.v false [.m 8 1])]) C9y
theorem C4u (n:List UInt8) (hn:n.length=32) (w:World):Calls Tryz.prog 114 #[A8 n] w fun e w'=>e=.returned (F8 (A2m n).row)∧Below w.heap.size w w':=by
 rw[Pn.seg];have lL:Sn.length=32:=by unfold Sn;simp
 let R (p:Pn) (hp:p.Ok) (z:List Int):List Av:=[Je n 32 hn,Bj T3 5 O5,Bj (Pl Sn) 640 (by rw[X8 Xx,lL])]++(p.av hp++z.map fun z=>Wo (.int .i64 z) rfl)
 refine A8e (g:=Fy) (ρ0:=[Je n 32 hn]) 200 8 A7a (fun m=>R (Bd n m) (Jz n m) [7-(m:Int)]) [] F9 Tryz.func114 (by kernel_rfl) ?_ (fun m hm=>?_) ?_ (by kernel_rfl)
 ·exact Go.run (g:=Fy) 200 [dE Uh O5,dPl B7f Xx 640 (by rw[lL]),dP (Km Af Bw) (Q4 Bw)] F9 (by kernel_rfl)
 ·show Go _ _ (R (Bd n m) (Jz n m) [7-(m:Int)]) _ _ (R (U0 n (7-m) (Ob (Bd n m)) 32) (Bq n (7-m) (Yf _) 32) [7-((m+1:Nat):Int)]) _ _;rw[show 7-((m+1:Nat):Int)=((7-m:Nat):Int)-1 by omega,show 7-(m:Int)=((7-m:Nat):Int) by omega];obtain⟨s,hs⟩:∃s,s=7-m:=⟨_,rfl⟩;rw[←hs];have aA:s<8:=by omega
  clear hs hm;have hr:(Ob (Bd n m)).Ok:=Yf _;refine Go.blk (ρ1:=R (Bd n m) (Jz n m) [(s:Int)]) (s1:=A7a) (ρ2:=R (U0 n s (Ob (Bd n m)) 32) (Bq n s hr 32) [(s:Int)]) (s2:=A7a) (by kernel_rfl) (Go.run (g:=Fy) 200 [dGe (x:=(s:Int)) (y:=0) (b:=true) (by simp)] F9 (by kernel_rfl)) ?_ (Go.run (g:=Fy) 200 [D2h (s:Int) 1 (B3w _ (by omega) (by omega))] F9 (by kernel_rfl));refine Go.lp (n:=32) (s1:=E1a) (fun i=>R (U0 n s (Ob (Bd n m)) i) (Bq n s hr i) [(s:Int),(i:Int)]) (ρ2:=R (U0 n s (Ob (Bd n m)) 32) (Bq n s hr 32) [(s:Int)]) (s2:=A7a) (by kernel_rfl) ?_ (fun i hi=>?_) ?_ (Go.run (g:=Fy) 200 [] F9 (by kernel_rfl))
  ·exact Go.run (g:=Fy) 200 [dP (Ve (Bd n m) (Jz n m)) hr] F9 (by kernel_rfl)
  ·have ho:=Bq n s hr i;have hp:=Xx.at i;show Go _ _ (R (U0 n s (Ob (Bd n m)) i) ho [(s:Int),(i:Int)]) _ _ (R (U0 n s (Ob (Bd n m)) (i+1)) (Bq n s hr (i+1)) [(s:Int),(i:Int)+1]) _ _;let D (b:Bool) (hb:C2b n i s=b):List (DC Tryz.prog (fIx [(20,0,i*1)]) fun W=>Below w.heap.size w W):=[F2b (x:=(i:Int)) (y:=32) (b:=true) (by simp;omega),C6d (s:=Instr.index 269 (F8 (Pl Sn)) (.int .i64 (i:Int))) (v:=(Du Sn i).val) (D1u Xx hi lL) ((Du Sn i).av hp),
    dIx (T:=35) (cs:=c8 n) 20 0 i 1 .i64 Tryz.underlying35 (by kernel_rfl) hi (by decide) rfl (fun _ _ _=>rfl),dL8 (T:=35) (l:=n) 20 0 i (by omega) rfl (fun _ _ _=>rfl),
    C6d (s:=convert 3 24 (.int .i64 (s:Int))) (v:=.int .u64 (s:Int)) (fun W=>C6t aA W) [Wo (.int .u64 (s:Int)) rfl],E1j (g8 n i) .u64 s aA,C3s (g8 n i >>> UInt8.ofNat s) 1,D5x (g8 n i >>> UInt8.ofNat s &&& 1) 1 hb]
   cases hb:C2b n i s with
   | true=>
    suffices hh:∀q (hq:Pn.Ok q),q=Fv (U0 n s (Ob (Bd n m)) i) (Du Sn i) T3→Go _ _ (R _ ho [(s:Int),(i:Int)]) _ _ (R q hq [(s:Int),(i:Int)+1]) _ _ from hh _ _ (A9a hb hi)
    rintro q hq rfl;exact Go.run (g:=Fy.ix [(20,0,i*1)]) 200 (D true hb++[dP (Pu _ (Du Sn i) T3 ho hp O5) hq,D8i (i:Int) 1 (B3w _ (by omega) (by omega))]) F9 (by kernel_rfl)
   | false=>
    suffices hh:∀q (hq:Pn.Ok q),q=U0 n s (Ob (Bd n m)) i→Go _ _ (R _ ho [(s:Int),(i:Int)]) _ _ (R q hq [(s:Int),(i:Int)+1]) _ _ from hh _ _ (B7a hb)
    rintro q hq rfl;exact Go.run (g:=Fy.ix [(20,0,i*1)]) 200 (D false hb++[D8i (i:Int) 1 (B3w _ (by omega) (by omega))]) F9 (by kernel_rfl)
  ·exact Go.run (g:=Fy) 200 [F2b (x:=32) (y:=32) (b:=false) rfl] F9 (by kernel_rfl)
 ·exact Go.run (g:=Fy) 200 [dGe (x:=-1) (y:=0) (b:=false) rfl] F9 (by kernel_rfl)
end
section
noncomputable def B7p (p:Pn) (n:List UInt8):Nat→Pn
 | 0=>Du (Ax p T3) 0
 | m+1=>Fv (Xq 4 (B7p p n m)) (Du (Ax p T3) (dg n (63-m))) T3
theorem A6r {p:Pn} (hp:p.Ok) (n:List UInt8):∀m,(B7p p n m).Ok
 | 0=>(Ml hp T3).at 0
 | m+1=>Cs _ _ _
noncomputable def Ur (p:Pn) (n:List UInt8):Pn:=if p.row==U6.row then A2m n else B7p p n 64
theorem Pd {p:Pn} (hp:p.Ok) (n:List UInt8):(Ur p n).Ok:=by
 unfold Ur;split
 ·exact A3j n
 ·exact A6r hp n 64
theorem A9b {p:Pn} (n:List UInt8) (h:(p.row==U6.row)=true):Ur p n=A2m n:=if_pos h
theorem D3e {p:Pn} (n:List UInt8) (h:(p.row==U6.row)=false):Ur p n=B7p p n 64:=if_neg (by rw[h];decide)
set_option maxRecDepth 100000
def F7c:St:=D6x 38 19 [(3,.v false [.p 1 0]),(4,.v false [.p 2 0]),(5,.v false [.p 7 0]),(6,.v false [.p 12 0]),(7,.v false [.p 16 0]),(8,.v false [.m 7 1])] [(1,35,[.m 0 32]),(2,160,List.replicate 20 (.c (.int .u64 0))),(7,158,[.m 1 5]),(12,206,[.m 2 320]),(16,160,[.m 3 5,.m 4 5,.m 5 5,.m 6 5])]
theorem A9y (p:Pn) (n:List UInt8) (hp:p.Ok) (hn:n.length=32) (w:World):Calls Tryz.prog 72 #[F8 p.row,A8 n] w fun e w'=>e=.returned (F8 (Ur p n).row)∧Below w.heap.size w w':=by
 rw[Pn.seg,Pn.seg];cases h:(p.row==U6.row) with
 | true=>
  rw[A9b n h];exact H7 (g:=Fy) 200 (p.av hp++[Je n 32 hn]) [dP Vv Q2,D6y p U6 hp Q2 h,dP (fun W=>by have:=C4u n hn W;rwa [Pn.seg]at this) (A3j n)] F9 Tryz.func72 (by kernel_rfl)
 | false=>
  rw[D3e n h];have oB:=Ml hp T3;have lB:=Ko p T3;let R (i:Nat) (z:Int):List Av:=[Je n 32 hn,Bj T3 5 O5,Bj (Pl (Ax p T3)) 320 (by rw[X8 oB,lB])]++((B7p p n i).av (A6r hp n i)++[Wo (.int .i64 z) rfl])
  refine A8e (g:=Fy) (ρ0:=p.av hp++[Je n 32 hn]) 200 64 F7c (fun i=>R i (63-(i:Int))) [] F9 Tryz.func72 (by kernel_rfl) ?_ (fun i hi=>?_) ?_ (by kernel_rfl)
  ·exact Go.run (g:=Fy) 200 [dP Vv Q2,D6y p U6 hp Q2 h,dE Uh O5,dPl (B5s p T3 hp O5) oB 320 (by rw[lB]),dLd (T:=206) 12 oB (by omega)] F9 (by kernel_rfl)
  ·have hr:=A6r hp n i;have h1:=B3m n (63-i);show Go _ _ (R i (63-(i:Int))) _ _ (R (i+1) (63-((i+1:Nat):Int))) _ _;rw[show 63-((i+1:Nat):Int)=((63-i:Nat):Int)-1 by omega,show 63-(i:Int)=((63-i:Nat):Int) by omega];exact Go.run (g:=Fy.ix [(51,12,dg n (63-i)*20)]) 200 ([dGe (x:=((63-i:Nat):Int)) (y:=0) (b:=true) (by simp)]++((List.range 4).map fun j=>dP (Ve (Xq j (B7p p n i)) (Pp hr j)) (Pp hr (j+1))) ++
    [dV (Ql n hn (63-i) (by omega)) rfl,dIx (T:=206) (cs:=E4 (Pl (Ax p T3))) 51 12 (dg n (63-i)) 20 .u8 Tryz.underlying206 (by kernel_rfl) h1 (by decide) rfl (fun _ _ _=>rfl),dLx (T:=206) 51 12 (dg n (63-i)) oB (by omega) rfl (fun _ _ _=>rfl),
    dP (Pu (Xq 4 (B7p p n i)) (Du (Ax p T3) (dg n (63-i))) T3 (Pp hr 4) (oB.at _) O5) (Cs _ _ _),D2h ((63-i:Nat):Int) 1 (B3w _ (by omega) (by omega))]) F9 (by kernel_rfl)
  ·exact Go.run (g:=Fy) 200 [dGe (x:=-1) (y:=0) (b:=false) rfl] F9 (by kernel_rfl)
end
section
def Uc (c e:UInt8):List UInt8:=c::e::z8 30
attribute [simp, go_sem] X7
@[simp, go_sem] theorem D4n (c e : UInt8) : (Uc c e).length = 32 := by simp [Uc]
theorem C1o (c e:UInt8) (w:World):(Instr.build 35 #[(0,v8 c),(1,v8 e)]).run Tryz.prog w=.ok (A8 (Uc c e)) w:=by kernel_rfl
attribute [irreducible] Uc
open Classical in
noncomputable def Hw (w:World) (raw:Result Next) (v u:Value):Result Next:=if h:∃p:UInt8×UInt8,v=v8 p.1∧u=v8 p.2 then .ok (.value (A8 (Uc h.choose.1 h.choose.2))) w else raw
theorem Mc (w:World) (raw:Result Next) (c e:UInt8):Hw w raw (v8 c) (v8 e)=.ok (.value (A8 (Uc c e))) w:=by
 have h:∃p:UInt8×UInt8,v8 c=v8 p.1∧v8 e=v8 p.2:=⟨(c,e),rfl,rfl⟩;unfold Hw;rw[dif_pos h,←Ts h.choose_spec.1,←Ts h.choose_spec.2]
@[go_sem] theorem D7r (w : World) (raw : Result Next) (c e : UInt8) : Hw w raw (.int .u8 (n8 c)) (.int .u8 (n8 e)) = .ok (.value (A8 (Uc c e))) w := Mc w raw c e
@[go_sem] theorem D7x (w : World) (raw : Result Next) (c : UInt8) : Hw w raw (.int .u8 (n8 c)) (.int .u8 77) = .ok (.value (A8 (Uc c 77))) w := Mc w raw c 77
@[go_sem] theorem E0y (w : World) (raw : Result Next) (c : UInt8) : Hw w raw (.int .u8 (n8 c)) (.int .u8 3) = .ok (.value (A8 (Uc c 3))) w := Mc w raw c 3
@[go_sem ↓ high] theorem D9a (w : World) (ρ : Operand → Value) (dst : Option Tmp) (ty : TypeId) (pos : String) (after : Array Edge) (guard : Option (Nat × Bool)) (x y : Operand) :
 (execOp ρ { dst,op:=.build 35 #[(0,x),(1,y)],type:=ty,pos,after,guard }).run Tryz.prog w=Hw w (F2 Tryz.prog ρ { dst,op:=.build 35 #[(0,x),(1,y)],type:=ty,pos,after,guard } w) (ρ x) (ρ y):=by
 unfold Hw;split
 ·rename_i h
  have h1:=h.choose_spec;generalize h.choose=c at h1;refine E9 w ρ dst ty pos after guard _ _ _ ?_;simp only[List.map_toArray,List.map_cons,List.map_nil,h1.1,h1.2];exact C1o c.1 c.2 w
 ·rfl
def Jb (p:Pn):Bool:=Eh (A1b 3 p)==h1 1
set_option maxRecDepth 100000
theorem B7l (p:Pn) (hp:p.Ok) (w:World):Calls Tryz.prog 195 #[F8 p.row] w fun e w'=>e=.returned (.bool (Jb p))∧Below w.heap.size w w':=by
 rw[Pn.seg];have h3:(A1b 3 p).Ok:=Kf _ _;exact H7 (g:=Fy) 100 (p.av hp) [dP (B4t p p hp hp) (Kf _ _),dP (B4t (B1n p p) (B1n p p) (Kf _ _) (Kf _ _)) (Kf _ _),dP (B4t (A1b 2 p) (A1b 2 p) (Kf _ _) (Kf _ _)) h3,dH (Uq (A1b 3 p) h3) (U7 _),dEq (Eh (A1b 3 p)) (h1 1) (U7 _) (X7 _) rfl] F9 Tryz.func195 (by kernel_rfl)
end
theorem Ws {P:Program} {t e:TypeId} {n:Nat} (hu:P.underlying t=some (.array n e)) (w:World) (g o k c:Nat) (hk:n≤k):(Instr.arrayAt t (.slice (some ⟨g,o,none⟩) k c)).run P w=.ok (.pointer (some ⟨g,o,none⟩)) w:=by
 have aA:¬ k<n:=by omega
 simp[Instr.arrayAt,run_underlying hu,aA]
@[go_sem] theorem E2k (w : World) (g o k c : Nat) (hk : 4 ≤ k) : (Instr.arrayAt 214 (.slice (some ⟨g, o, none⟩) k c)).run Tryz.prog w = .ok (.pointer (some ⟨g, o, none⟩)) w := Ws Tryz.underlying214 w g o k c hk
@[go_sem] theorem D7q (w : World) (g o k c : Nat) (hk : 32 ≤ k) : (Instr.arrayAt 35 (.slice (some ⟨g, o, none⟩) k c)).run Tryz.prog w = .ok (.pointer (some ⟨g, o, none⟩)) w := Ws Tryz.underlying35 w g o k c hk
def Qg (b:List UInt8):List UInt64:=wl b 4 32
@[simp, go_sem] theorem Z8 (b : List UInt8) : (Qg b).length = 4 := by unfold Qg; simp
def Lr (b:List UInt8):Bool:=Q7 (Qg b)==Qg b
def Iu (b:List UInt8):List UInt64:=if Lr b then Qg b else J7 4
theorem Tq (b:List UInt8):(Iu b).length=4:=by unfold Iu;split<;>simp
theorem C4l {b:List UInt8} (h:Lr b=true):Iu b=Qg b:=if_pos h
theorem C7i {b:List UInt8} (h:Lr b=false):Iu b=J7 4:=if_neg (by rw[h];decide)
theorem D1a (b:List UInt8) (hb:b.length=32) (w:World):Calls Tryz.prog 196 #[A8 b] w fun e w'=>e=.returned (.tuple #[F8 (Iu b),.bool (Lr b)])∧Below w.heap.size w w':=by
 have cR:=Bs (Z8 b);obtain⟨W0,bR⟩:∃z,z=((w.alloc (Obj.cells (c8 b).toArray 35)).alloc (Obj.cells (E4 (J7 4)).toArray 216)):=⟨_,rfl⟩;have hL:W0=Q6 w [(35,(c8 b)),(216,(E4 (J7 4)))]:=bR;have B0:Below w.heap.size w W0:=by rw[hL];exact H6 _ _
 have aE:Bk W0 (w.heap.size) 35 (c8 b):=by rw[hL];exact E0 _ w 0 _ _ rfl
 have aN:Bk W0 (w.heap.size+1) 216 (E4 (J7 4)):=by rw[hL];exact E0 _ w 1 _ _ rfl
 have z0:w.heap.size+2≤W0.heap.size:=by rw[hL,O7];simp
 have cL:W0.heap.size=w.heap.size+2:=by rw[hL,O7];rfl
 clear hL;go_enter Tryz.func196,Tryz.ntmps196;go_wp2_with fail;rw[←bR];clear bR cL;refine (A5o b 32 4 w.heap.size _ hb rfl (by decide) W0 aE).mono ?_;rintro e W1 ⟨p3,rfl,aD,bQ,b2⟩;have bH:w.heap.size<p3:=Nat.lt_of_lt_of_le aE.lt bQ;have bI:w.heap.size+1<p3:=Nat.lt_of_lt_of_le aN.lt bQ;have cG:w.heap.size+2≤p3:=Nat.le_trans z0 bQ;clear bQ;have B1:=C1 B0 b2 B0.size;have z1:=Nat.le_trans z0 b2.size;have aV:=aE.below b2 aE.lt;have aW:=aN.below b2 aN.lt;clear b2 B0 z0 aE aN;have aD:Bk W1 (p3) 104 (E4 (Qg b)):=aD;obtain⟨V5,aO⟩:∃z,z=W1.alloc (Obj.cells (E4 (J7 4)).toArray 214):=⟨_,rfl⟩;have bE:W1.heap.size=W1.heap.size:=rfl;have aF:Bk V5 (W1.heap.size) 214 (E4 (J7 4)):=by rw[aO,←bE];exact Bk.new W1 _ _
 have aQ:Bk V5 (w.heap.size) 35 (c8 b):=by rw[aO];exact aV.alloc _
 have aR:Bk V5 (w.heap.size+1) 216 (E4 (J7 4)):=by rw[aO];exact aW.alloc _
 have aS:Bk V5 (p3) 104 (E4 (Qg b)):=by rw[aO];exact aD.alloc _
 have cH:Below w.heap.size w V5:=by rw[aO];exact B1.alloc B1.size _
 have aG:w.heap.size<W1.heap.size:=by rw[←bE];exact aV.lt
 have aH:w.heap.size+1<W1.heap.size:=by rw[←bE];exact aW.lt
 have aI:p3<W1.heap.size:=by rw[←bE];exact aD.lt
 have bJ:w.heap.size+2≤W1.heap.size:=by rw[←bE];exact Nat.le_trans z1 (Nat.le_refl _)
 clear bE;obtain⟨V6,aT⟩:∃z,z=C4 V5 ⟨W1.heap.size,0,none⟩ (E4 (Qg b)):=⟨_,rfl⟩;have aA:Bk V6 (W1.heap.size) 214 (E4 (Qg b)):=by rw[aT];exact Bk.put64 (aF) ((show (J7 4).length=4 from by simp)) ((Z8 b))
 have aJ:Bk V6 (w.heap.size) 35 (c8 b):=by rw[aT];exact aQ.putFar (p:=⟨W1.heap.size,0,none⟩) (by show w.heap.size≠W1.heap.size;omega) _
 have aK:Bk V6 (w.heap.size+1) 216 (E4 (J7 4)):=by rw[aT];exact aR.putFar (p:=⟨W1.heap.size,0,none⟩) (by show w.heap.size+1≠W1.heap.size;omega) _
 have aL:Bk V6 (p3) 104 (E4 (Qg b)):=by rw[aT];exact aS.putFar (p:=⟨W1.heap.size,0,none⟩) (by show p3≠W1.heap.size;omega) _
 have bS:Below w.heap.size w V6:=by rw[aT];exact C0 cH (by show w.heap.size≤W1.heap.size;omega) _
 have f4:=Bk.row64 (n:=4) (aD) ((Z8 b));have aU:E7 V5 ⟨W1.heap.size,0,none⟩ 4=true:=Bk.can64 (aF) ((show (J7 4).length=4 from by simp));rw[aO]at aU;have aM:(Qg b).length=4:=(Z8 b);go_wp2_with fail;rw[←aO,←aT];clear f4 aU aM;obtain⟨p7,bT⟩:∃g,g=W1.heap.size:=⟨_,rfl⟩;rw[←bT]at aA aG aH aI bJ;try rw[←bT]
 have cI:w.heap.size+2≤V6.heap.size:=by have hz:=z1;rw[aT,aO];first | (simp;omega) | (simp[World.setCell];omega)
 clear aO aT bT aV aW aD B1 z1 aQ aR aS aF cH;have S8:Below V6.heap.size V6 V6.drew:=(Below.refl _ _).drew;refine E3 (fun W=>Bk W (p7) 214 (E4 (Qg b))) (by kernel_rfl) ?_;refine C5 (A:=?cS) [0,2] (by kernel_rfl) (by kernel_rfl) rfl (by kernel_rfl) (by kernel_rfl) (aA.drew) (h:=fun W hW=>?cM) (hr:=?cT);case cM=>
  have f0:=Bk.row64 (n:=4) (hW) ((Z8 b));simp only[pick,List.getElem?_cons_zero,List.getElem?_cons_succ];repeat (go_big_quiet_step (fail))
  refine wpQuiet_nil ?_;rfl
 refine Bm [zv 1 10 (F8 (Q7 (Qg b))),zv 3 12 (.bool (!(Q7 (Qg b)==Qg b)))] (by kernel_rfl) (fun W hW=>(aA.drew.below hW aA.drew.lt)) ?bK ?bL ?bM;case bK=>exact (List.forall_mem_cons.2 ⟨P8 _ _ _,(List.forall_mem_cons.2 ⟨P8 _ _ _,(fun _ h=>by cases h)⟩)⟩)
 case bL=>
  refine (List.forall_mem_cons.2 ⟨?bU,(List.forall_mem_cons.2 ⟨?bW,(fun _ h=>by cases h)⟩)⟩);case bU=>
   intro o ho us W hW hp Q' hQ';obtain rfl:=Option.some.inj ho;clear hp ho;rw[C2]at hQ' ⊢;dsimp only[E5,E6,List.foldl,zv,za]at hQ' ⊢;simp only[List.set_cons_succ,List.set_cons_zero];go_wp2_with fail;refine (Nd (Qg b) (Z8 b) W).mono ?_;rintro e W2 ⟨rfl,b2⟩;go_wp2_with fail;exact C9 (hQ' _ _ b2 rfl (fun h=>by cases h)) (by kernel_rfl)
  case bW=>intro o ho us W hW hp Q' hQ';obtain rfl:=Option.some.inj ho;have bN:us 1=(F8 (Q7 (Qg b))):=hp 0 _ rfl (by kernel_rfl);clear hp ho;rw[C2]at hQ' ⊢;dsimp only[E5,E6,List.foldl,zv,za]at hQ' ⊢;simp only[List.set_cons_succ,List.set_cons_zero];rw[bN]at hQ' ⊢;clear bN;go_wp2_with fail;exact C9 (hQ' _ _ (Below.refl _ _) rfl (fun h=>by cases h)) (by kernel_rfl)
 case bM=>
 intro us W9 cJ hg bX cN;have bN:us 1=(F8 (Q7 (Qg b))):=hg _ (List.mem_of_getElem? (i:=0) rfl);have cK:us 3=(.bool (!(Q7 (Qg b)==Qg b))):=hg _ (List.mem_of_getElem? (i:=1) rfl);have aX:=C1 S8 cJ S8.size;rw[C2];dsimp only[E6,List.foldl,zv,za];simp only[List.set_cons_succ,List.set_cons_zero];rw[bN,cK];clear hg bX cN bN cK cJ S8;have B9:=C1 bS aX bS.size;have z9:=Nat.le_trans cI aX.size;have bO:=aJ.below aX aJ.lt;have aP:=aK.below aX aK.lt;have bP:=aL.below aX aL.lt;have aY:=aA.below aX aA.lt;clear aX bS cI aJ aK aL aA;refine F0 (by kernel_rfl) ?_;cases hz:(Q7 (Qg b)==Qg b);case false=>
  rw[Bool.not_false];have HE:=Lib.hid (C7i hz);have HB:Hid (Lr b=false):=Lib.hid hz;clear hz;obtain⟨bF,aB⟩:∃z,z=C4 W9 ⟨w.heap.size+1,0,none⟩ (E4 (J7 4)):=⟨_,rfl⟩;have aZ:Bk bF (w.heap.size+1) 216 (E4 (J7 4)):=by rw[aB];exact Bk.put64 (aP) ((show (J7 4).length=4 from by simp)) ((show (J7 4).length=4 from by simp))
  have bY:Bk bF (w.heap.size) 35 (c8 b):=by rw[aB];exact bO.putFar (p:=⟨w.heap.size+1,0,none⟩) (by show w.heap.size≠w.heap.size+1;omega) _
  have bZ:Bk bF (p3) 104 (E4 (Qg b)):=by rw[aB];exact bP.putFar (p:=⟨w.heap.size+1,0,none⟩) (by show p3≠w.heap.size+1;omega) _
  have cA:Bk bF (p7) 214 (E4 (Qg b)):=by rw[aB];exact aY.putFar (p:=⟨w.heap.size+1,0,none⟩) (by show p7≠w.heap.size+1;omega) _
  have cB:Below w.heap.size w bF:=by rw[aB];exact C0 B9 (by show w.heap.size≤w.heap.size+1;omega) _
  have bA:E7 W9 ⟨w.heap.size+1,0,none⟩ 4=true:=Bk.can64 (aP) ((show (J7 4).length=4 from by simp));have aM:(J7 4).length=4:=(show (J7 4).length=4 from by simp);go_wp2_with fail;rw[←aB];clear bA aM;have cO:w.heap.size+2≤bF.heap.size:=by have hz:=z9;rw[aB];first | (simp;omega) | (simp[World.setCell];omega)
  clear aB z9;have bB:(J7 4).length=4:=(show (J7 4).length=4 from by simp);refine bodyPost_ret (v:=.tuple #[F8 (J7 4),.bool false]) ?_ rfl ⟨?_,cB⟩
  ·refine I9 rfl ?_ ?_
   ·exact H9.row aZ rfl _ Cb rfl (by simp[Gg,bB])
   ·exact H9.tmp rfl
  ·rw[HE.out,HB.out]
 case true=>
  rw[Bool.not_true];have HE:=Lib.hid (C4l hz);have HB:Hid (Lr b=true):=Lib.hid hz;clear hz;obtain⟨bG,aC⟩:∃z,z=C4 W9 ⟨w.heap.size+1,0,none⟩ (E4 (Qg b)):=⟨_,rfl⟩;have bC:Bk bG (w.heap.size+1) 216 (E4 (Qg b)):=by rw[aC];exact Bk.put64 (aP) ((show (J7 4).length=4 from by simp)) ((Z8 b))
  have cC:Bk bG (w.heap.size) 35 (c8 b):=by rw[aC];exact bO.putFar (p:=⟨w.heap.size+1,0,none⟩) (by show w.heap.size≠w.heap.size+1;omega) _
  have cD:Bk bG (p3) 104 (E4 (Qg b)):=by rw[aC];exact bP.putFar (p:=⟨w.heap.size+1,0,none⟩) (by show p3≠w.heap.size+1;omega) _
  have cE:Bk bG (p7) 214 (E4 (Qg b)):=by rw[aC];exact aY.putFar (p:=⟨w.heap.size+1,0,none⟩) (by show p7≠w.heap.size+1;omega) _
  have cF:Below w.heap.size w bG:=by rw[aC];exact C0 B9 (by show w.heap.size≤w.heap.size+1;omega) _
  have cP:=Bk.row64 (n:=4) (aY) ((Z8 b));have bD:E7 W9 ⟨w.heap.size+1,0,none⟩ 4=true:=Bk.can64 (aP) ((show (J7 4).length=4 from by simp));have aM:(Qg b).length=4:=(Z8 b);go_wp2_with fail;rw[←aC];clear cP bD aM;have cQ:w.heap.size+2≤bG.heap.size:=by have hz:=z9;rw[aC];first | (simp;omega) | (simp[World.setCell];omega)
  clear aC z9;have bB:(Qg b).length=4:=(Z8 b);refine bodyPost_ret (v:=.tuple #[F8 (Qg b),.bool true]) ?_ rfl ⟨?_,cF⟩
  ·refine I9 rfl ?_ ?_
   ·exact H9.row bC rfl _ Cb rfl (by simp[Gg,bB])
   ·exact H9.tmp rfl
  ·rw[HE.out,HB.out]
def mT (x y t c:UInt64):UInt64:=Uu (Uu (x*y) t 0) c 0
def mC (x y t c:UInt64):UInt64:=B2d x y+Xn (x*y) t 0+Xn (Uu (x*y) t 0) c 0
def mIn (x:UInt64) (b:List UInt64) (i:Nat) (t:List UInt64):Nat→List UInt64×UInt64
 | 0=>(t,0)
 | j+1=>((mIn x b i t j).1.set (i+j) (mT x (E8 b j) (E8 (mIn x b i t j).1 (i+j)) (mIn x b i t j).2),mC x (E8 b j) (E8 (mIn x b i t j).1 (i+j)) (mIn x b i t j).2)
theorem Lj (x:UInt64) (b:List UInt64) (i:Nat) (t:List UInt64):∀j,(mIn x b i t j).1.length=t.length
 | 0=>rfl
 | j+1=>by show (List.set _ _ _).length=_;rw[List.length_set];exact Lj x b i t j
def A3e (a b:List UInt64):Nat→List UInt64
 | 0=>J7 8
 | i+1=>(mIn (E8 a i) b i (A3e a b i) 4).1.set (i+4) (mIn (E8 a i) b i (A3e a b i) 4).2
theorem Nc (a b:List UInt64):∀i,(A3e a b i).length=8
 | 0=>by show (J7 8).length=8;simp
 | i+1=>by show (List.set _ _ _).length=_;rw[List.length_set,Lj];exact Nc a b i
def B7n (a b:List UInt64):List UInt64:=Ou (A3e a b 4)
theorem Wk (a b:List UInt64):(B7n a b).length=4:=Dt _
theorem C7a (a b:List UInt64) (ha:a.length=4) (hb:b.length=4) (w:World):Calls Tryz.prog 133 #[F8 a,F8 b] w fun e w'=>e=.returned (F8 (B7n a b))∧Below w.heap.size w w':=by
 obtain⟨W0,aA⟩:∃z,z=(((w.alloc (Obj.cells (E4 a).toArray 216)).alloc (Obj.cells (E4 b).toArray 216)).alloc (Obj.cells (E4 (J7 4)).toArray 216)).alloc (Obj.cells (E4 (J7 8)).toArray 257):=⟨_,rfl⟩;have hL:W0=Q6 w [(216,E4 a),(216,E4 b),(216,E4 (J7 4)),(257,E4 (J7 8))]:=aA;have B0:Below w.heap.size w W0:=by rw[hL];exact H6 _ _
 have K0:Bk W0 w.heap.size 216 (E4 a):=by rw[hL];exact E0 _ w 0 _ _ rfl
 have L0:Bk W0 (w.heap.size+1) 216 (E4 b):=by rw[hL];exact E0 _ w 1 _ _ rfl
 have R0:Bk W0 (w.heap.size+2) 216 (E4 (J7 4)):=by rw[hL];exact E0 _ w 2 _ _ rfl
 have D0:Bk W0 (w.heap.size+3) 257 (E4 (A3e a b 0)):=by rw[hL];exact E0 _ w 3 _ _ rfl
 have ra:=K0.row64 ha;rw[aA]at ra;clear hL;go_enter Tryz.func133,Tryz.ntmps133;go_wp2_with fail;rw[←aA];clear aA ra K0;go_loopw [16] (fun x wr=>∃i:Nat,i≤4∧x=.int .i64 (i:Int)∧Bk wr (w.heap.size+1) 216 (E4 b)∧Bk wr (w.heap.size+2) 216 (E4 (J7 4))∧Bk wr (w.heap.size+3) 257 (E4 (A3e a b i))∧Below w.heap.size w wr) (fun x _=>4-(intOf x).toNat)
 case atStart=>exact ⟨0,by omega,rfl,L0,R0,D0,B0⟩
 case round=>
  clear L0 R0 D0 B0;obtain⟨i,hi,rfl,L,R,D,B⟩:=hrel;by_cases hlt:i<4
  ·obtain⟨x,hx⟩:∃x,x=E8 a i:=⟨_,rfl⟩;obtain⟨t,ht⟩:∃t,t=A3e a b i:=⟨_,rfl⟩;have aD:t.length=8:=by rw[ht];exact Nc a b i
   have HN:Hid (A3e a b (i+1)=(mIn x b i t 4).1.set (i+4) (mIn x b i t 4).2):=Lib.hid (by rw[ht,hx];rfl);have aI:decide ((i:Int)<4)=true:=decide_eq_true (by omega);rw[←ht]at D;clear ht;have aE:=Lib.hid aD;clear aD;have D0:Bk wr (w.heap.size+3) 257 (E4 (mIn x b i t 0).1):=D;have rb:=L.row64 hb;have aF:E8 a i=x:=hx.symm;clear hx D;go_wp2_with fail;clear rb aF;go_loopw [22,8] (fun y c wr=>∃j:Nat,j≤4∧y=.int .i64 (j:Int)∧c=.int .u64 (C8 (mIn x b i t j).2)∧Bk wr (w.heap.size+1) 216 (E4 b)∧Bk wr (w.heap.size+2) 216 (E4 (J7 4))∧Bk wr (w.heap.size+3) 257 (E4 (mIn x b i t j).1)∧Below w.heap.size w wr) (fun y _ _=>4-(intOf y).toNat)
   case atStart=>exact ⟨0,by omega,rfl,rfl,L,R,D0,B⟩
   case round=>
    clear L R D0 B;obtain⟨j,hj,rfl,rfl,L,R,D,B⟩:=hrel;by_cases hlj:j<4
    ·obtain⟨u,hu⟩:∃u,u=(mIn x b i t j).1:=⟨_,rfl⟩;obtain⟨c,hc⟩:∃c,c=(mIn x b i t j).2:=⟨_,rfl⟩;obtain⟨q,hq⟩:∃q,q=i+j:=⟨_,rfl⟩;obtain⟨y,hy⟩:∃y,y=E8 b j:=⟨_,rfl⟩;obtain⟨v,hv⟩:∃v,v=E8 u q:=⟨_,rfl⟩;have aC:u.length=8:=by rw[hu,Lj];exact aE.out
     have HI:Hid (mIn x b i t (j+1)=(u.set q (mT x y v c),mC x y v c)):=Lib.hid (by rw[hv,hy,hu,hc,hq];rfl);rw[←hu]at D;rw[←hc];have aJ:(i:Int)+(j:Int)=(q:Int):=by omega
     have aK:q<8:=by omega
     have aL:decide ((j:Int)<4)=true:=decide_eq_true (by omega);have d0:=D.at_ (P4 (l:=u) (i:=q) (by omega));rw[←hv]at d0;have aM:E8 b j=y:=hy.symm;have f0:=D.frozen q;have D3:=D.set_ q (.int .u64 (C8 (mT x y v c)));rw[Ex]at D3;clear hu hc hq hy hv aC;go_wp2_with fail;refine (Vt x y wr).mono ?_;rintro e w2 ⟨rfl,rfl⟩;go_wp2_with fail;go_roundw;case rel=>exact ⟨j+1,by omega,by go_num,by rw[HI.out];rfl,L.far (by show w.heap.size+1≠w.heap.size+3;omega) _,R.far (by show w.heap.size+2≠w.heap.size+3;omega) _,by rw[HI.out];exact D3,B.setCell (by show w.heap.size≤w.heap.size+3;omega) _⟩
     case measure=>simp[intOf];omega
    ·obtain rfl:j=4:=by omega
     have e4:((4:Nat):Int)=4:=rfl;rw[e4];clear e4;obtain⟨u,hu⟩:∃u,u=(mIn x b i t 4).1:=⟨_,rfl⟩;obtain⟨c,hc⟩:∃c,c=(mIn x b i t 4).2:=⟨_,rfl⟩;have aC:u.length=8:=by rw[hu,Lj];exact aE.out
     have HI:Hid (A3e a b (i+1)=u.set (i+4) c):=Lib.hid (by rw[HN.out,hu,hc]);rw[←hu]at D;rw[←hc];have aN:((i:Int)+4).toNat=i+4:=by omega
     have d0:=D.at_ (P4 (l:=u) (i:=i+4) (by omega));have f0:=D.frozen (i+4);have D3:=D.set_ (i+4) (.int .u64 (C8 c));rw[Ex]at D3;clear hu hc aC;go_wp2_with fail;go_roundw;case rel=>exact ⟨i+1,by omega,by go_num,L.far (by show w.heap.size+1≠w.heap.size+3;omega) _,R.far (by show w.heap.size+2≠w.heap.size+3;omega) _,by rw[HI.out];exact D3,B.setCell (by show w.heap.size≤w.heap.size+3;omega) _⟩
     case measure=>simp[intOf];omega
  ·obtain rfl:i=4:=by omega
   have e4:((4:Nat):Int)=4:=rfl;rw[e4];clear e4;obtain⟨ws,aB⟩:∃l,l=A3e a b 4:=⟨_,rfl⟩;have aG:ws.length=8:=by rw[aB];exact Nc a b 4
   have HS:Hid (B7n a b=Ou ws):=Lib.hid (by rw[aB];rfl);rw[←aB]at D;clear aB;go_wp2_with fail;refine (A3p ws 8 (w.heap.size+3) _ aG (by decide) wr D).mono ?_;rintro e w2 ⟨rfl,b2⟩;have R2:=R.below b2 R.lt;have B2:=C1 B b2 B.size;have hl:=Dt ws;have aH:E7 w2 ⟨w.heap.size+2,0,none⟩ 4=true:=R2.can (by simp);go_wp2_with fail;refine bodyPost_ret (C7 rfl _ _ _ _ _ _ rfl (R2.puts (vs:=E4 (Ou ws)) (by simp[hl])) Cb rfl (by simp[Gg,hl])) rfl ⟨by rw[HS.out];rfl,C0 B2 (by show w.heap.size≤w.heap.size+2;omega) _⟩
theorem D9l:(Tryz.prog.info? 29).map (fun i=>(i.zero,i.size,i.bytes))=some (some (.slice none 0 0),1,24):=by kernel_rfl
theorem J9.one_cells {w:World} {B:Nat} {vs:List Value} {ls:List (List UInt8)} (h2:vs.length=ls.length) (h3:∀(i:Nat) (x:Value) (l:List UInt8),vs[i]?=some x→ls[i]?=some l→By w 0 B x l):∀u∈vs,u.oneCell'=true:=by
 intro u hu;obtain⟨i,hi⟩:=List.getElem?_of_mem hu;have aA:=(List.getElem?_eq_some_iff.1 hi).1;obtain⟨A,c,rfl,_⟩:=(h3 i u _ hi (List.getElem?_eq_getElem (by omega))).open_;rfl
theorem J9.join {w w':World} {v:Value} {vs vs':List Value} {ls ls':List (List UInt8)} (hv:vs.length=ls.length) (hv':vs'.length=ls'.length) (hs:Sl w' 0 w'.heap.size v (vs++vs')) (hb:Below w.heap.size w w')
 (h3:∀(i:Nat) (x:Value) (l:List UInt8),vs[i]?=some x→ls[i]?=some l→By w 0 w.heap.size x l) (h3':∀(i:Nat) (x:Value) (l:List UInt8),vs'[i]?=some x→ls'[i]?=some l→By w 0 w.heap.size x l):J9 w' w'.heap.size v (ls++ls'):=by
 refine ⟨vs++vs',hs,by simp[hv,hv'],fun i x l hx hl=>?_⟩;by_cases hi:i<vs.length
 ·rw[List.getElem?_append_left hi]at hx;rw[List.getElem?_append_left (by omega)]at hl;exact ((h3 i x l hx hl).below hb).more hb.size
 ·rw[List.getElem?_append_right (by omega)]at hx;rw[List.getElem?_append_right (by omega),←hv]at hl;exact ((h3' _ x l hx hl).below hb).more hb.size
theorem C8m (g o n:Nat) (vp:Value) (vs vs':List Value) (w:World) (ha:Sl w 0 w.heap.size (.slice (some ⟨g,o,none⟩) n n) vs) (hp:Sl w 0 w.heap.size vp vs') (honec:∀u∈vs',u.oneCell'=true) (h0:0<vs'.length) (hsz:vs.length+vs'.length≤1000000) :
 Calls Tryz.prog 130 #[vp,.slice (some ⟨g,o,none⟩) n n] w fun e w'=>∃v,e=.returned v∧Sl w' w.heap.size w'.heap.size v (vs++vs')∧Below w.heap.size w w':=by
 obtain⟨A,c,e1,h1,h2,aF⟩:=ha;obtain⟨A',c',rfl,aQ,aR,aA⟩:=hp;injection e1 with e1 e2 e3;subst e1 e2 e3;obtain⟨i0,aG,aH,aI,aJ⟩:=info_parts D9l;have hn:vs'.length≠0:=by omega
 have aB:∀j u,vs[j]?=some u→w.cell? ⟨g,o+j,none⟩=some u:=by
  rcases aF with h | ⟨g',o',e,_,_,hc⟩
  ·intro j u hj;rw[h]at hj;cases hj
  ·injection e with e;injection e with e1 e2;subst e1 e2;exact hc
 rcases aA with h | ⟨g',o',rfl,_,_,hc'⟩
 ·rw[h]at hn;exact absurd rfl hn
 have aS:Hid _:=Lib.hid aB;have aK:Hid _:=Lib.hid hc';have aC:Hid _:=Lib.hid honec;have aL:=Lib.hid aG;have aM:=Lib.hid aH;have aN:=Lib.hid aI;have aO:=Lib.hid aJ;have K1:Hid (some (⟨g,o,none⟩:Addr)=none→vs.length=0∧vs.length=0):=Lib.hid (fun h=>by cases h);have K2:Hid (vs.length=vs.length*1):=Lib.hid (by omega);have K3:Hid (∀b:Addr,some (⟨g,o,none⟩:Addr)=some b→∀j u,vs[j]?=some u→w.cell? (b.add j)=some u):=Lib.hid (fun b hb j u hj=>by injection hb with hb;subst hb;rw[Q3];exact aB j u hj);have K4:Hid (vs'.length=vs'.length*1):=Lib.hid (by omega);have K5:Hid (∀j u,vs'[j]?=some u→w.cell? ((⟨g',o',none⟩:Addr).add j)=some u):=Lib.hid (fun j u hj=>by rw[Q3];exact hc' j u hj);have K6:Hid (vs.length<vs.length+vs'.length):=Lib.hid (by omega);have K7:Hid (vs.length+vs'.length≤maxLen):=Lib.hid (by simp only[maxLen];omega);have K8:Hid ((vs.length+vs'.length)*24≤140737488355328):=Lib.hid (by omega);clear aB hc' honec aG aH aI aJ aF;go_enter Tryz.func130,Tryz.ntmps130;go_wp2_with (at_builtin;refine wpList_append_grows _ rfl _ _ 74 rfl 29 i0 _ 1 24 Tryz.underlying74 aL.out aM.out aN.out aO.out rfl (by decide) (some ⟨g,o,none⟩) vs.length vs.length vs rfl K1.out K2.out K3.out ⟨g',o',none⟩ vs'.length c' vs' rfl K4.out K5.out aC.out K6.out K7.out K8.out ?_;intro v' w' aD aP);have aE:Below w.heap.size w w':=(Below.refl w.heap.size w).grown aP (Nat.le_refl _) (fun k hk=>by cases hk);go_ret;exact ⟨v',rfl,Sl.of_own aD,aE⟩
theorem J9.up {w w':World} {v:Value} {ls:List (List UInt8)} (h:J9 w w.heap.size v ls) (hb:Below w.heap.size w w'):J9 w' w'.heap.size v ls:=(h.below hb).more hb.size
theorem By.up {w w':World} {v:Value} {l:List UInt8} (h:By w 0 w.heap.size v l) (hb:Below w.heap.size w w'):By w' 0 w'.heap.size v l:=(h.below hb).more hb.size
theorem Bk.by {w:World} {g:Nat} {t:TypeId} {l m:List UInt8} (K:Bk w g t (c8 l)) (o n c:Nat) (hn:o+n≤l.length) (hc:n≤c) (hc2:c≤9223372036854775807) (hm:(l.drop o).take n=m):By w 0 w.heap.size (.slice (some ⟨g,o,none⟩) n c) m:=by
 have aA:m.length=n:=by rw[←hm];simp;omega
 have:=By.mk_ (w:=w) (lo:=0) (B:=w.heap.size) (A:=some ⟨g,o,none⟩) (c:=c) (l:=m) (by omega) (by unfold maxLen;exact hc2) (.inr ⟨g,o,rfl,Nat.zero_le _,K.lt,fun j u hj=>K.at_ (by
  have h1:j<m.length:=by have:=(List.getElem?_eq_some_iff.1 hj).1;simpa using this
  rw[←hj,←hm];simp only[c8,List.map_take,List.map_drop,List.getElem?_take,List.getElem?_drop];rw[if_pos (by omega)])⟩)
 rwa [aA]at this
theorem Bk.byAll {w:World} {g:Nat} {t:TypeId} {l:List UInt8} {n:Nat} (K:Bk w g t (c8 l)) (hl:l.length=n) (hn:n≤9223372036854775807):By w 0 w.heap.size (.slice (some ⟨g,0,none⟩) n n) l:=
 K.by 0 n n (by omega) (Nat.le_refl _) hn (by rw[List.drop_zero,List.take_of_length_le (by omega)])
def zs (i:Nat) (d:Tmp) (n:Nat) (ls:List (List UInt8)):Soup:=⟨i,d,fun v w=>∃g,v=.slice (some ⟨g,0,none⟩) n n∧J9 w w.heap.size v ls,false⟩
def zp (i:Nat) (d:Tmp) (ls:List (List UInt8)):Soup:=⟨i,d,fun v w=>J9 w w.heap.size v ls,false⟩
def zb (i:Nat) (d:Tmp) (l:List UInt8):Soup:=⟨i,d,fun v w=>By w 0 w.heap.size v l,false⟩
theorem zs_mono (i:Nat) (d:Tmp) (n:Nat) (ls:List (List UInt8)):(zs i d n ls).mono:=fun _ _ _ ⟨g,e,h⟩ hb=>⟨g,e,h.up hb⟩
theorem zb_mono (i:Nat) (d:Tmp) (l:List UInt8):(zb i d l).mono:=fun _ _ _ h hb=>h.up hb
def Xz (l:List UInt8):List UInt64:=A1l (Ww l)
theorem A2h (l:List UInt8):(Xz l).length=4:=Gk _
theorem B4i (vp:Value) (ls:List (List UInt8)) (w:World) (hp:J9 w w.heap.size vp ls) (hsz:ls.flatten.length≤1099511627776):Calls Tryz.prog 129 #[vp] w fun e w'=>e=.returned (F8 (Xz ls.flatten))∧Below w.heap.size w w':=by
 obtain⟨W0,aA⟩:∃z,z=w.alloc (Obj.cells (E4 (J7 4)).toArray 216):=⟨_,rfl⟩;have B0:Below w.heap.size w W0:=by rw[aA];exact (Below.refl _ _).alloc (Nat.le_refl _) _
 have R0:Bk W0 w.heap.size 216 (E4 (J7 4)):=by rw[aA];exact Bk.new w _ _
 have P0:=Lib.hid (hp.up B0);clear hp;go_enter Tryz.func129,Tryz.ntmps129;go_wp2_with fail;rw[←aA];clear aA;refine (A0m vp ls W0 P0.out hsz).mono ?_;rintro e w1 ⟨rfl,b1⟩;have R1:=R0.below b1 R0.lt;have B1:=C1 B0 b1 B0.size;obtain⟨h,hh⟩:∃h,h=Ww ls.flatten:=⟨_,rfl⟩;have hl:h.length=64:=by rw[hh];exact Tg _
 have HN:Hid (Xz ls.flatten=A1l h):=Lib.hid (by rw[hh];rfl);rw[←hh];clear hh;go_wp2_with fail;refine (A5g h hl w1).mono ?_;rintro e w2 ⟨rfl,b2⟩;have R2:=R1.below b2 R1.lt;have B2:=C1 B1 b2 B1.size;have aB:=Gk h;have aC:E7 w2 ⟨w.heap.size,0,none⟩ 4=true:=R2.can (by simp);go_wp2_with fail;refine bodyPost_ret (C7 rfl _ _ _ _ _ _ rfl (R2.puts (vs:=E4 (A1l h)) (by simp[aB])) Cb rfl (by simp[Gg,aB])) rfl ⟨by rw[HN.out];rfl,C0 B2 (Nat.le_refl _) _⟩
theorem RG' {P Q : Prop} (q : Q) (h : Q → P := by
  intro q
  rw [C2]
  dsimp only [E6, List.foldl, zv, za, zs, zp, zb]
  simp only [List.set_cons_succ, List.set_cons_zero]
  exact q) : P := h q
theorem KG' {Q : World → Prop} {P : Prop} (c : ∀ W, Q W) (h : (∀ W, Q W) → P := by
  intro c o ho us W hW hp Q' hQ'
  obtain rfl := Option.some.inj ho
  clear hp ho
  rw [C2] at hQ' ⊢
  dsimp only [E5, E6, List.foldl, zv, za, zs, zp, zb] at hQ' ⊢
  simp only [List.set_cons_succ, List.set_cons_zero]
  go_wp2_with fail
  refine (c W).mono ?_
  rintro e W2 ⟨rfl, b2⟩
  go_wp2_with fail
  exact C9 (hQ' _ _ b2 rfl (fun h => by cases h)) (by kernel_rfl)) : P := h c
end Go.Proofs.YtdfpoofbgjilgaaGreat
