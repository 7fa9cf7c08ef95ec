/- A part of the proof of AuditBatch. -/
import Derived.ArgAppend
import Derived.Test.YtdfpoofbgjilgaaGreatUar
set_option linter.unusedVariables false
set_option linter.unusedSimpArgs false
set_option maxRecDepth 100000
set_option maxHeartbeats 40000000
namespace Go.Proofs.YtdfpoofbgjilgaaGreat
open Go Go.RowKit Sh
section
theorem B9i (w:World):(sizeOf 160).run Tryz.prog w=.ok 20 w:=by kernel_rfl
theorem B9x (xs:List UInt64) (o:Nat) (w:World):(part 160 (E6 xs).toArray o).run Tryz.prog w=.ok (J0 ((xs.drop o).take 20)) w:=by
 simp[part,isAgg,run_underlying A4i,B9i,J0,E6,List.extract_eq_take_drop]
theorem C4a {ps:List Pn} (h:Ek ps) {i:Nat} (hi:i<32) (hl:ps.length=32) (w:World):(Instr.index 269 (J0 (Pl ps)) (.int .i64 (i:Int))).run Tryz.prog w=.ok (Eb ps i).val w:=by
 rw[←Pn.seg];show _=Result.ok (J0 (ps.getD i Aj).row) w;rw[←C6j i h (by omega)];have h6:¬ 32≤i:=by omega
 have e1:=B9x (Pl ps) (i*20) w;simp[J0,Instr.index,run_underlying Tryz.underlying269,asIntOf,hi,h6,B9i,B9x]
def C2b (n:List UInt8) (i s:Nat):Bool:=g8 n i >>> UInt8.ofNat s &&& 1==1
noncomputable def X2 (n:List UInt8) (s:Nat) (r:Pn):Nat→Pn
 | 0=>r
 | i+1=>if C2b n i s then Fz (X2 n s r i) (Fo i) U4 else X2 n s r i
theorem Cg (n:List UInt8) (s:Nat) {r:Pn} (hr:r.Ok):∀i,(X2 n s r i).Ok
 | 0=>hr
 | i+1=>by
  unfold X2;split
  ·exact Cs _ _ _
  ·exact Cg n s hr i
theorem A9k {n:List UInt8} {s:Nat} {r:Pn} {i:Nat} (hb:C2b n i s=true) (hi:i<32):X2 n s r (i+1)=Fz (X2 n s r i) (Eb Va i) U4:=by
 rw[D0o hi];exact if_pos hb
theorem B4b {n:List UInt8} {s:Nat} {r:Pn} {i:Nat} (hb:C2b n i s=false):X2 n s r (i+1)=X2 n s r i:=if_neg (by rw[hb];decide)
noncomputable def Bc (n:List UInt8):Nat→Pn
 | 0=>P4 Aj
 | m+1=>X2 n (7-m) (Oo (Bc n m)) 32
theorem Jj (n:List UInt8):∀m,(Bc n m).Ok
 | 0=>T4 Cc
 | m+1=>Cg n _ (Yu _) 32
noncomputable def A2u (n:List UInt8):Pn:=Bc n 8
theorem A5y (n:List UInt8):(A2u n).Ok:=Jj n 8
set_option maxRecDepth 100000
theorem C6a {s:Nat} (h:s<8) (W:World):(convert 3 24 (.int .i64 (s:Int))).run Tryz.prog W=.ok (.int .u64 (s:Int)) W:=by
 have e:IntKind.u64.wrap (s:Int)=(s:Int):=IntWalk.u64_in _ (by omega);have h1:(convert 3 24 (.int .i64 (s:Int))).run Tryz.prog W=.ok (.int .u64 (IntKind.u64.wrap (s:Int))) W:=by kernel_rfl
 rw[h1,e]
def C7u:List (Nat×TypeId×List Sg):=[(0,35,[.m 0 32]),(1,160,List.replicate 20 (.c (.int .u64 0))),(3,158,[.m 1 5]),(6,269,[.m 2 640]),(10,160,[.m 3 5,.m 4 5,.m 5 5,.m 6 5])]
def C8j:List (Nat×SV):=[(1,.v false [.p 0 0]),(2,.v false [.p 1 0]),(3,.v false [.p 3 0]),(4,.v false [.p 6 0]),(5,.v false [.p 10 0]),(6,.v false [.m 7 1])]
def A6w:St:=D0w 38 13 C8j C7u
def D6d:St:=D0w 38 13 (C8j++[(19,.v true [.m 2 640]),(20,.v false [.m 8 1])]) C7u
theorem C0v (n:List UInt8) (hn:n.length=32) (w:World):Calls Tryz.prog 114 #[A8 n] w fun e w'=>e=.returned (J0 (A2u n).row)∧Below w.heap.size w w':=by
 rw[Pn.seg];have lL:Va.length=32:=by unfold Va;simp
 let R (p:Pn) (hp:p.Ok) (z:List Int):List Av:=[Jg n 32 hn,Bi U4 5 P5,Bi (Pl Va) 640 (by rw[Y3 Yi,lL])]++(p.av hp++z.map fun z=>Wo (.int .i64 z) rfl)
 refine A6h (g:=Gc) (ρ0:=[Jg n 32 hn]) 200 8 A6w (fun m=>R (Bc n m) (Jj n m) [7-(m:Int)]) [] F2 Tryz.func114 (by kernel_rfl) ?_ (fun m hm=>?_) ?_ (by kernel_rfl)
 ·exact Go.run (g:=Gc) 200 [dE Td P5,dPl B5v Yi 640 (by rw[lL]),dP (Li Aj Cc) (T4 Cc)] F2 (by kernel_rfl)
 ·show Go _ _ (R (Bc n m) (Jj n m) [7-(m:Int)]) _ _ (R (X2 n (7-m) (Oo (Bc n m)) 32) (Cg n (7-m) (Yu _) 32) [7-((m+1:Nat):Int)]) _ _;rw[show 7-((m+1:Nat):Int)=((7-m:Nat):Int)-1 by omega,show 7-(m:Int)=((7-m:Nat):Int) by omega];obtain⟨s,hs⟩:∃s,s=7-m:=⟨_,rfl⟩;rw[←hs];have aA:s<8:=by omega
  clear hs hm;have hr:(Oo (Bc n m)).Ok:=Yu _;refine Go.blk (ρ1:=R (Bc n m) (Jj n m) [(s:Int)]) (s1:=A6w) (ρ2:=R (X2 n s (Oo (Bc n m)) 32) (Cg n s hr 32) [(s:Int)]) (s2:=A6w) (by kernel_rfl) (Go.run (g:=Gc) 200 [dGe (x:=(s:Int)) (y:=0) (b:=true) (by simp)] F2 (by kernel_rfl)) ?_ (Go.run (g:=Gc) 200 [C4p (s:Int) 1 (B1a _ (by omega) (by omega))] F2 (by kernel_rfl));refine Go.lp (n:=32) (s1:=D6d) (fun i=>R (X2 n s (Oo (Bc n m)) i) (Cg n s hr i) [(s:Int),(i:Int)]) (ρ2:=R (X2 n s (Oo (Bc n m)) 32) (Cg n s hr 32) [(s:Int)]) (s2:=A6w) (by kernel_rfl) ?_ (fun i hi=>?_) ?_ (Go.run (g:=Gc) 200 [] F2 (by kernel_rfl))
  ·exact Go.run (g:=Gc) 200 [dP (Wb (Bc n m) (Jj n m)) hr] F2 (by kernel_rfl)
  ·have ho:=Cg n s hr i;have hp:=Yi.at i;show Go _ _ (R (X2 n s (Oo (Bc n m)) i) ho [(s:Int),(i:Int)]) _ _ (R (X2 n s (Oo (Bc n m)) (i+1)) (Cg n s hr (i+1)) [(s:Int),(i:Int)+1]) _ _;let D (b:Bool) (hb:C2b n i s=b):List (DC Tryz.prog (fIx [(20,0,i*1)]) fun W=>Below w.heap.size w W):=[E0y (x:=(i:Int)) (y:=32) (b:=true) (by simp;omega),C8f (s:=Instr.index 269 (J0 (Pl Va)) (.int .i64 (i:Int))) (v:=(Eb Va i).val) (C4a Yi hi lL) ((Eb Va i).av hp),
    dIx (T:=35) (cs:=c8 n) 20 0 i 1 .i64 Tryz.underlying35 (by kernel_rfl) hi (by decide) rfl (fun _ _ _=>rfl),dL8 (T:=35) (l:=n) 20 0 i (by omega) rfl (fun _ _ _=>rfl),
    C8f (s:=convert 3 24 (.int .i64 (s:Int))) (v:=.int .u64 (s:Int)) (fun W=>C6a aA W) [Wo (.int .u64 (s:Int)) rfl],D7m (g8 n i) .u64 s aA,C0q (g8 n i >>> UInt8.ofNat s) 1,D3y (g8 n i >>> UInt8.ofNat s &&& 1) 1 hb]
   cases hb:C2b n i s with
   | true=>
    suffices hh:∀q (hq:Pn.Ok q),q=Fz (X2 n s (Oo (Bc n m)) i) (Eb Va i) U4→Go _ _ (R _ ho [(s:Int),(i:Int)]) _ _ (R q hq [(s:Int),(i:Int)+1]) _ _ from hh _ _ (A9k hb hi)
    rintro q hq rfl;exact Go.run (g:=Gc.ix [(20,0,i*1)]) 200 (D true hb++[dP (Ps _ (Eb Va i) U4 ho hp P5) hq,D5h (i:Int) 1 (B1a _ (by omega) (by omega))]) F2 (by kernel_rfl)
   | false=>
    suffices hh:∀q (hq:Pn.Ok q),q=X2 n s (Oo (Bc n m)) i→Go _ _ (R _ ho [(s:Int),(i:Int)]) _ _ (R q hq [(s:Int),(i:Int)+1]) _ _ from hh _ _ (B4b hb)
    rintro q hq rfl;exact Go.run (g:=Gc.ix [(20,0,i*1)]) 200 (D false hb++[D5h (i:Int) 1 (B1a _ (by omega) (by omega))]) F2 (by kernel_rfl)
  ·exact Go.run (g:=Gc) 200 [E0y (x:=32) (y:=32) (b:=false) rfl] F2 (by kernel_rfl)
 ·exact Go.run (g:=Gc) 200 [dGe (x:=-1) (y:=0) (b:=false) rfl] F2 (by kernel_rfl)
end
section
noncomputable def B6p (p:Pn) (n:List UInt8):Nat→Pn
 | 0=>Eb (Ay p U4) 0
 | m+1=>Fz (Xv 4 (B6p p n m)) (Eb (Ay p U4) (dg n (63-m))) U4
theorem A8b {p:Pn} (hp:p.Ok) (n:List UInt8):∀m,(B6p p n m).Ok
 | 0=>(Np hp U4).at 0
 | m+1=>Cs _ _ _
noncomputable def Sz (p:Pn) (n:List UInt8):Pn:=if p.row==X5.row then A2u n else B6p p n 64
theorem Ph {p:Pn} (hp:p.Ok) (n:List UInt8):(Sz p n).Ok:=by
 unfold Sz;split
 ·exact A5y n
 ·exact A8b hp n 64
theorem B1k {p:Pn} (n:List UInt8) (h:(p.row==X5.row)=true):Sz p n=A2u n:=if_pos h
theorem D3t {p:Pn} (n:List UInt8) (h:(p.row==X5.row)=false):Sz p n=B6p p n 64:=if_neg (by rw[h];decide)
set_option maxRecDepth 100000
def F3c:St:=D0w 38 19 [(3,.v false [.p 1 0]),(4,.v false [.p 2 0]),(5,.v false [.p 7 0]),(6,.v false [.p 12 0]),(7,.v false [.p 16 0]),(8,.v false [.m 7 1])] [(1,35,[.m 0 32]),(2,160,List.replicate 20 (.c (.int .u64 0))),(7,158,[.m 1 5]),(12,206,[.m 2 320]),(16,160,[.m 3 5,.m 4 5,.m 5 5,.m 6 5])]
theorem B0a (p:Pn) (n:List UInt8) (hp:p.Ok) (hn:n.length=32) (w:World):Calls Tryz.prog 72 #[J0 p.row,A8 n] w fun e w'=>e=.returned (J0 (Sz p n).row)∧Below w.heap.size w w':=by
 rw[Pn.seg,Pn.seg];cases h:(p.row==X5.row) with
 | true=>
  rw[B1k n h];exact F8 (g:=Gc) 200 (p.av hp++[Jg n 32 hn]) [dP Wk S4,D2t p X5 hp S4 h,dP (fun W=>by have:=C0v n hn W;rwa [Pn.seg]at this) (A5y n)] F2 Tryz.func72 (by kernel_rfl)
 | false=>
  rw[D3t n h];have oB:=Np hp U4;have lB:=Ks p U4;let R (i:Nat) (z:Int):List Av:=[Jg n 32 hn,Bi U4 5 P5,Bi (Pl (Ay p U4)) 320 (by rw[Y3 oB,lB])]++((B6p p n i).av (A8b hp n i)++[Wo (.int .i64 z) rfl])
  refine A6h (g:=Gc) (ρ0:=p.av hp++[Jg n 32 hn]) 200 64 F3c (fun i=>R i (63-(i:Int))) [] F2 Tryz.func72 (by kernel_rfl) ?_ (fun i hi=>?_) ?_ (by kernel_rfl)
  ·exact Go.run (g:=Gc) 200 [dP Wk S4,D2t p X5 hp S4 h,dE Td P5,dPl (B5l p U4 hp P5) oB 320 (by rw[lB]),dLd (T:=206) 12 oB (by omega)] F2 (by kernel_rfl)
  ·have hr:=A8b hp n i;have h1:=B1z n (63-i);show Go _ _ (R i (63-(i:Int))) _ _ (R (i+1) (63-((i+1:Nat):Int))) _ _;rw[show 63-((i+1:Nat):Int)=((63-i:Nat):Int)-1 by omega,show 63-(i:Int)=((63-i:Nat):Int) by omega];exact Go.run (g:=Gc.ix [(51,12,dg n (63-i)*20)]) 200 ([dGe (x:=((63-i:Nat):Int)) (y:=0) (b:=true) (by simp)]++((List.range 4).map fun j=>dP (Wb (Xv j (B6p p n i)) (Qb hr j)) (Qb hr (j+1))) ++
    [dV (Rs n hn (63-i) (by omega)) rfl,dIx (T:=206) (cs:=E6 (Pl (Ay p U4))) 51 12 (dg n (63-i)) 20 .u8 Tryz.underlying206 (by kernel_rfl) h1 (by decide) rfl (fun _ _ _=>rfl),dLx (T:=206) 51 12 (dg n (63-i)) oB (by omega) rfl (fun _ _ _=>rfl),
    dP (Ps (Xv 4 (B6p p n i)) (Eb (Ay p U4) (dg n (63-i))) U4 (Qb hr 4) (oB.at _) P5) (Cs _ _ _),C4p ((63-i:Nat):Int) 1 (B1a _ (by omega) (by omega))]) F2 (by kernel_rfl)
  ·exact Go.run (g:=Gc) 200 [dGe (x:=-1) (y:=0) (b:=false) rfl] F2 (by kernel_rfl)
end
section
def Gb (c e:UInt8):List UInt8:=c::e::z8 30
attribute [simp, go_sem] Dm
@[simp, go_sem] theorem A7e (c e : UInt8) : (Gb c e).length = 32 := by simp [Gb]
theorem C2e (c e:UInt8) (w:World):(Instr.build 35 #[(0,v8 c),(1,v8 e)]).run Tryz.prog w=.ok (A8 (Gb c e)) w:=by kernel_rfl
attribute [irreducible] Gb
open Classical in
noncomputable def Gu (w:World) (raw:Result Next) (v u:Value):Result Next:=if h:∃p:UInt8×UInt8,v=v8 p.1∧u=v8 p.2 then .ok (.value (A8 (Gb h.choose.1 h.choose.2))) w else raw
theorem Nh (w:World) (raw:Result Next) (c e:UInt8):Gu w raw (v8 c) (v8 e)=.ok (.value (A8 (Gb c e))) w:=by
 have h:∃p:UInt8×UInt8,v8 c=v8 p.1∧v8 e=v8 p.2:=⟨(c,e),rfl,rfl⟩;unfold Gu;rw[dif_pos h,←B8a h.choose_spec.1,←B8a h.choose_spec.2]
@[go_sem] theorem D4p (w : World) (raw : Result Next) (c e : UInt8) : Gu w raw (.int .u8 (n8 c)) (.int .u8 (n8 e)) = .ok (.value (A8 (Gb c e))) w := Nh w raw c e
@[go_sem] theorem D4t (w : World) (raw : Result Next) (c : UInt8) : Gu w raw (.int .u8 (n8 c)) (.int .u8 77) = .ok (.value (A8 (Gb c 77))) w := Nh w raw c 77
@[go_sem ↓ high] theorem D5k (w : World) (ρ : Operand → Value) (dst : Option Tmp) (ty : TypeId) (pos : String) (after : Array Edge) (guard : Option (Nat × Bool)) (x y : Operand) :
 (execOp ρ { dst,op:=.build 35 #[(0,x),(1,y)],type:=ty,pos,after,guard }).run Tryz.prog w=Gu w (P8 Tryz.prog ρ { dst,op:=.build 35 #[(0,x),(1,y)],type:=ty,pos,after,guard } w) (ρ x) (ρ y):=by
 unfold Gu;split
 ·rename_i h
  have h1:=h.choose_spec;generalize h.choose=c at h1;refine U8 w ρ dst ty pos after guard _ _ _ ?_;simp only[List.map_toArray,List.map_cons,List.map_nil,h1.1,h1.2];exact C2e c.1 c.2 w
 ·rfl
def Kt (p:Pn):Bool:=Fv (A1y 3 p)==h1 1
set_option maxRecDepth 100000
theorem B6h (p:Pn) (hp:p.Ok) (w:World):Calls Tryz.prog 195 #[J0 p.row] w fun e w'=>e=.returned (.bool (Kt p))∧Below w.heap.size w w':=by
 rw[Pn.seg];have h3:(A1y 3 p).Ok:=Lk _ _;exact F8 (g:=Gc) 100 (p.av hp) [dP (B5r p p hp hp) (Lk _ _),dP (B5r (B0n p p) (B0n p p) (Lk _ _) (Lk _ _)) (Lk _ _),dP (B5r (A1y 2 p) (A1y 2 p) (Lk _ _) (Lk _ _)) h3,dH (Ug (A1y 3 p) h3) (X7 _),dEq (Fv (A1y 3 p)) (h1 1) (X7 _) (Dm _) rfl] F2 Tryz.func195 (by kernel_rfl)
end
theorem A9l {P:Program} {t e:TypeId} {n:Nat} (hu:P.underlying t=some (.array n e)) (w:World) (g o k c:Nat) (hk:n≤k):(Instr.arrayAt t (.slice (some ⟨g,o,none⟩) k c)).run P w=.ok (.pointer (some ⟨g,o,none⟩)) w:=by
 have aA:¬ k<n:=by omega
 simp[Instr.arrayAt,run_underlying hu,aA]
@[go_sem] theorem D8b (w : World) (g o k c : Nat) (hk : 4 ≤ k) : (Instr.arrayAt 214 (.slice (some ⟨g, o, none⟩) k c)).run Tryz.prog w = .ok (.pointer (some ⟨g, o, none⟩)) w := A9l Tryz.underlying214 w g o k c hk
def Ql (b:List UInt8):List UInt64:=wl b 4 32
@[simp, go_sem] theorem Z7 (b : List UInt8) : (Ql b).length = 4 := by unfold Ql; simp
def Lr (b:List UInt8):Bool:=T8 (Ql b)==Ql b
def Ik (b:List UInt8):List UInt64:=if Lr b then Ql b else O8 4
theorem Uo (b:List UInt8):(Ik b).length=4:=by unfold Ik;split<;>simp
theorem C3j {b:List UInt8} (h:Lr b=true):Ik b=Ql b:=if_pos h
theorem C4t {b:List UInt8} (h:Lr b=false):Ik b=O8 4:=if_neg (by rw[h];decide)
theorem C7j (b:List UInt8) (hb:b.length=32) (w:World):Calls Tryz.prog 196 #[A8 b] w fun e w'=>e=.returned (.tuple #[J0 (Ik b),.bool (Lr b)])∧Below w.heap.size w w':=by
 have cS:=Ch (Z7 b);obtain⟨W0,bR⟩:∃z,z=((w.alloc (Obj.cells (c8 b).toArray 35)).alloc (Obj.cells (E6 (O8 4)).toArray 216)):=⟨_,rfl⟩;have hL:W0=Y6 w [(35,(c8 b)),(216,(E6 (O8 4)))]:=bR;have B0:Below w.heap.size w W0:=by rw[hL];exact N7 _ _
 have aE:Bk W0 (w.heap.size) 35 (c8 b):=by rw[hL];exact H7 _ w 0 _ _ rfl
 have aN:Bk W0 (w.heap.size+1) 216 (E6 (O8 4)):=by rw[hL];exact H7 _ w 1 _ _ rfl
 have z0:w.heap.size+2≤W0.heap.size:=by rw[hL,U1];simp
 have cM:W0.heap.size=w.heap.size+2:=by rw[hL,U1];rfl
 clear hL;go_enter Tryz.func196,Tryz.ntmps196;go_wp2_with fail;rw[←bR];clear bR cM;refine (A3j b 32 4 w.heap.size _ hb rfl (by decide) W0 aE).mono ?_;rintro e W1 ⟨p3,rfl,aD,bQ,b2⟩;have bH:w.heap.size<p3:=Nat.lt_of_lt_of_le aE.lt bQ;have bI:w.heap.size+1<p3:=Nat.lt_of_lt_of_le aN.lt bQ;have cH:w.heap.size+2≤p3:=Nat.le_trans z0 bQ;clear bQ;have B1:=C0 B0 b2 B0.size;have z1:=Nat.le_trans z0 b2.size;have aV:=aE.below b2 aE.lt;have aW:=aN.below b2 aN.lt;clear b2 B0 z0 aE aN;have aD:Bk W1 (p3) 104 (E6 (Ql b)):=aD;obtain⟨V5,aO⟩:∃z,z=W1.alloc (Obj.cells (E6 (O8 4)).toArray 214):=⟨_,rfl⟩;have bE:W1.heap.size=W1.heap.size:=rfl;have aF:Bk V5 (W1.heap.size) 214 (E6 (O8 4)):=by rw[aO,←bE];exact Bk.new W1 _ _
 have aQ:Bk V5 (w.heap.size) 35 (c8 b):=by rw[aO];exact aV.alloc _
 have aR:Bk V5 (w.heap.size+1) 216 (E6 (O8 4)):=by rw[aO];exact aW.alloc _
 have aS:Bk V5 (p3) 104 (E6 (Ql b)):=by rw[aO];exact aD.alloc _
 have cI:Below w.heap.size w V5:=by rw[aO];exact B1.alloc B1.size _
 have aG:w.heap.size<W1.heap.size:=by rw[←bE];exact aV.lt
 have aH:w.heap.size+1<W1.heap.size:=by rw[←bE];exact aW.lt
 have aI:p3<W1.heap.size:=by rw[←bE];exact aD.lt
 have bJ:w.heap.size+2≤W1.heap.size:=by rw[←bE];exact Nat.le_trans z1 (Nat.le_refl _)
 clear bE;obtain⟨V6,aT⟩:∃z,z=C5 V5 ⟨W1.heap.size,0,none⟩ (E6 (Ql b)):=⟨_,rfl⟩;have aA:Bk V6 (W1.heap.size) 214 (E6 (Ql b)):=by rw[aT];exact Bk.put64 (aF) ((show (O8 4).length=4 from by simp)) ((Z7 b))
 have aJ:Bk V6 (w.heap.size) 35 (c8 b):=by rw[aT];exact aQ.putFar (p:=⟨W1.heap.size,0,none⟩) (by show w.heap.size≠W1.heap.size;omega) _
 have aK:Bk V6 (w.heap.size+1) 216 (E6 (O8 4)):=by rw[aT];exact aR.putFar (p:=⟨W1.heap.size,0,none⟩) (by show w.heap.size+1≠W1.heap.size;omega) _
 have aL:Bk V6 (p3) 104 (E6 (Ql b)):=by rw[aT];exact aS.putFar (p:=⟨W1.heap.size,0,none⟩) (by show p3≠W1.heap.size;omega) _
 have bS:Below w.heap.size w V6:=by rw[aT];exact C1 cI (by show w.heap.size≤W1.heap.size;omega) _
 have f4:=Bk.row64 (n:=4) (aD) ((Z7 b));have aU:E4 V5 ⟨W1.heap.size,0,none⟩ 4=true:=Bk.can64 (aF) ((show (O8 4).length=4 from by simp));rw[aO]at aU;have aM:(Ql b).length=4:=(Z7 b);go_wp2_with fail;rw[←aO,←aT];clear f4 aU aM;obtain⟨p7,bT⟩:∃g,g=W1.heap.size:=⟨_,rfl⟩;rw[←bT]at aA aG aH aI bJ;try rw[←bT]
 have cJ:w.heap.size+2≤V6.heap.size:=by have hz:=z1;rw[aT,aO];first | (simp;omega) | (simp[World.setCell];omega)
 clear aO aT bT aV aW aD B1 z1 aQ aR aS aF cI;have S8:Below V6.heap.size V6 V6.drew:=(Below.refl _ _).drew;refine D9 (fun W=>Bk W (p7) 214 (E6 (Ql b))) (by kernel_rfl) ?_;refine C4 (A:=?cT) [0,2] (by kernel_rfl) (by kernel_rfl) rfl (by kernel_rfl) (by kernel_rfl) (aA.drew) (h:=fun W hW=>?cN) (hr:=?cU);case cN=>
  have f0:=Bk.row64 (n:=4) (hW) ((Z7 b));simp only[pick,List.getElem?_cons_zero,List.getElem?_cons_succ];repeat (go_big_quiet_step (fail))
  refine wpQuiet_nil ?_;rfl
 refine Bn [zv 1 10 (J0 (T8 (Ql b))),zv 3 12 (.bool (!(T8 (Ql b)==Ql b)))] (by kernel_rfl) (fun W hW=>(aA.drew.below hW aA.drew.lt)) ?bK ?bL ?bM;case bK=>exact (List.forall_mem_cons.2 ⟨V8 _ _ _,(List.forall_mem_cons.2 ⟨V8 _ _ _,(fun _ h=>by cases h)⟩)⟩)
 case bL=>
  refine (List.forall_mem_cons.2 ⟨?bU,(List.forall_mem_cons.2 ⟨?bX,(fun _ h=>by cases h)⟩)⟩);case bU=>
   intro o ho us W hW hp Q' hQ';obtain rfl:=Option.some.inj ho;clear hp ho;rw[C7]at hQ' ⊢;dsimp only[D8,H9,List.foldl,zv,za]at hQ' ⊢;simp only[List.set_cons_succ,List.set_cons_zero];go_wp2_with fail;refine (Ms (Ql b) (Z7 b) W).mono ?_;rintro e W2 ⟨rfl,b2⟩;go_wp2_with fail;exact F0 (hQ' _ _ b2 rfl (fun h=>by cases h)) (by kernel_rfl)
  case bX=>intro o ho us W hW hp Q' hQ';obtain rfl:=Option.some.inj ho;have bN:us 1=(J0 (T8 (Ql b))):=hp 0 _ rfl (by kernel_rfl);clear hp ho;rw[C7]at hQ' ⊢;dsimp only[D8,H9,List.foldl,zv,za]at hQ' ⊢;simp only[List.set_cons_succ,List.set_cons_zero];rw[bN]at hQ' ⊢;clear bN;go_wp2_with fail;exact F0 (hQ' _ _ (Below.refl _ _) rfl (fun h=>by cases h)) (by kernel_rfl)
 case bM=>
 intro us W9 cK hg bY cO;have bN:us 1=(J0 (T8 (Ql b))):=hg _ (List.mem_of_getElem? (i:=0) rfl);have cL:us 3=(.bool (!(T8 (Ql b)==Ql b))):=hg _ (List.mem_of_getElem? (i:=1) rfl);have aX:=C0 S8 cK S8.size;rw[C7];dsimp only[H9,List.foldl,zv,za];simp only[List.set_cons_succ,List.set_cons_zero];rw[bN,cL];clear hg bY cO bN cL cK S8;have B9:=C0 bS aX bS.size;have z9:=Nat.le_trans cJ aX.size;have bO:=aJ.below aX aJ.lt;have aP:=aK.below aX aK.lt;have bP:=aL.below aX aL.lt;have aY:=aA.below aX aA.lt;clear aX bS cJ aJ aK aL aA;refine E5 (by kernel_rfl) ?_;cases hz:(T8 (Ql b)==Ql b);case false=>
  rw[Bool.not_false];have HE:=Lib.hid (C4t hz);have HB:Hid (Lr b=false):=Lib.hid hz;clear hz;obtain⟨bF,aB⟩:∃z,z=C5 W9 ⟨w.heap.size+1,0,none⟩ (E6 (O8 4)):=⟨_,rfl⟩;have aZ:Bk bF (w.heap.size+1) 216 (E6 (O8 4)):=by rw[aB];exact Bk.put64 (aP) ((show (O8 4).length=4 from by simp)) ((show (O8 4).length=4 from by simp))
  have bZ:Bk bF (w.heap.size) 35 (c8 b):=by rw[aB];exact bO.putFar (p:=⟨w.heap.size+1,0,none⟩) (by show w.heap.size≠w.heap.size+1;omega) _
  have cA:Bk bF (p3) 104 (E6 (Ql b)):=by rw[aB];exact bP.putFar (p:=⟨w.heap.size+1,0,none⟩) (by show p3≠w.heap.size+1;omega) _
  have cB:Bk bF (p7) 214 (E6 (Ql b)):=by rw[aB];exact aY.putFar (p:=⟨w.heap.size+1,0,none⟩) (by show p7≠w.heap.size+1;omega) _
  have cC:Below w.heap.size w bF:=by rw[aB];exact C1 B9 (by show w.heap.size≤w.heap.size+1;omega) _
  have bA:E4 W9 ⟨w.heap.size+1,0,none⟩ 4=true:=Bk.can64 (aP) ((show (O8 4).length=4 from by simp));have aM:(O8 4).length=4:=(show (O8 4).length=4 from by simp);go_wp2_with fail;rw[←aB];clear bA aM;have cP:w.heap.size+2≤bF.heap.size:=by have hz:=z9;rw[aB];first | (simp;omega) | (simp[World.setCell];omega)
  clear aB z9;have bB:(O8 4).length=4:=(show (O8 4).length=4 from by simp);refine bodyPost_ret (v:=.tuple #[J0 (O8 4),.bool false]) ?_ rfl ⟨?_,cC⟩
  ·refine E3 rfl ?_ ?_
   ·exact C9.row aZ rfl _ Dq rfl (by simp[Il,bB])
   ·exact C9.tmp rfl
  ·rw[HE.out,HB.out]
 case true=>
  rw[Bool.not_true];have HE:=Lib.hid (C3j hz);have HB:Hid (Lr b=true):=Lib.hid hz;clear hz;obtain⟨bG,aC⟩:∃z,z=C5 W9 ⟨w.heap.size+1,0,none⟩ (E6 (Ql b)):=⟨_,rfl⟩;have bC:Bk bG (w.heap.size+1) 216 (E6 (Ql b)):=by rw[aC];exact Bk.put64 (aP) ((show (O8 4).length=4 from by simp)) ((Z7 b))
  have cD:Bk bG (w.heap.size) 35 (c8 b):=by rw[aC];exact bO.putFar (p:=⟨w.heap.size+1,0,none⟩) (by show w.heap.size≠w.heap.size+1;omega) _
  have cE:Bk bG (p3) 104 (E6 (Ql b)):=by rw[aC];exact bP.putFar (p:=⟨w.heap.size+1,0,none⟩) (by show p3≠w.heap.size+1;omega) _
  have cF:Bk bG (p7) 214 (E6 (Ql b)):=by rw[aC];exact aY.putFar (p:=⟨w.heap.size+1,0,none⟩) (by show p7≠w.heap.size+1;omega) _
  have cG:Below w.heap.size w bG:=by rw[aC];exact C1 B9 (by show w.heap.size≤w.heap.size+1;omega) _
  have cQ:=Bk.row64 (n:=4) (aY) ((Z7 b));have bD:E4 W9 ⟨w.heap.size+1,0,none⟩ 4=true:=Bk.can64 (aP) ((show (O8 4).length=4 from by simp));have aM:(Ql b).length=4:=(Z7 b);go_wp2_with fail;rw[←aC];clear cQ bD aM;have cR:w.heap.size+2≤bG.heap.size:=by have hz:=z9;rw[aC];first | (simp;omega) | (simp[World.setCell];omega)
  clear aC z9;have bB:(Ql b).length=4:=(Z7 b);refine bodyPost_ret (v:=.tuple #[J0 (Ql b),.bool true]) ?_ rfl ⟨?_,cG⟩
  ·refine E3 rfl ?_ ?_
   ·exact C9.row bC rfl _ Dq rfl (by simp[Il,bB])
   ·exact C9.tmp rfl
  ·rw[HE.out,HB.out]
def mT (x y t c:UInt64):UInt64:=Vx (Vx (x*y) t 0) c 0
def mC (x y t c:UInt64):UInt64:=B0t x y+A0d (x*y) t 0+A0d (Vx (x*y) t 0) c 0
def mIn (x:UInt64) (b:List UInt64) (i:Nat) (t:List UInt64):Nat→List UInt64×UInt64
 | 0=>(t,0)
 | j+1=>((mIn x b i t j).1.set (i+j) (mT x (E7 b j) (E7 (mIn x b i t j).1 (i+j)) (mIn x b i t j).2),mC x (E7 b j) (E7 (mIn x b i t j).1 (i+j)) (mIn x b i t j).2)
theorem Kk (x:UInt64) (b:List UInt64) (i:Nat) (t:List UInt64):∀j,(mIn x b i t j).1.length=t.length
 | 0=>rfl
 | j+1=>by show (List.set _ _ _).length=_;rw[List.length_set];exact Kk x b i t j
def A3e (a b:List UInt64):Nat→List UInt64
 | 0=>O8 8
 | i+1=>(mIn (E7 a i) b i (A3e a b i) 4).1.set (i+4) (mIn (E7 a i) b i (A3e a b i) 4).2
theorem Oc (a b:List UInt64):∀i,(A3e a b i).length=8
 | 0=>by show (O8 8).length=8;simp
 | i+1=>by show (List.set _ _ _).length=_;rw[List.length_set,Kk];exact Oc a b i
def B4u (a b:List UInt64):List UInt64:=Og (A3e a b 4)
theorem Wr (a b:List UInt64):(B4u a b).length=4:=Ed _
theorem C9k (a b:List UInt64) (ha:a.length=4) (hb:b.length=4) (w:World):Calls Tryz.prog 133 #[J0 a,J0 b] w fun e w'=>e=.returned (J0 (B4u a b))∧Below w.heap.size w w':=by
 obtain⟨W0,aA⟩:∃z,z=(((w.alloc (Obj.cells (E6 a).toArray 216)).alloc (Obj.cells (E6 b).toArray 216)).alloc (Obj.cells (E6 (O8 4)).toArray 216)).alloc (Obj.cells (E6 (O8 8)).toArray 257):=⟨_,rfl⟩;have hL:W0=Y6 w [(216,E6 a),(216,E6 b),(216,E6 (O8 4)),(257,E6 (O8 8))]:=aA;have B0:Below w.heap.size w W0:=by rw[hL];exact N7 _ _
 have K0:Bk W0 w.heap.size 216 (E6 a):=by rw[hL];exact H7 _ w 0 _ _ rfl
 have L0:Bk W0 (w.heap.size+1) 216 (E6 b):=by rw[hL];exact H7 _ w 1 _ _ rfl
 have R0:Bk W0 (w.heap.size+2) 216 (E6 (O8 4)):=by rw[hL];exact H7 _ w 2 _ _ rfl
 have D0:Bk W0 (w.heap.size+3) 257 (E6 (A3e a b 0)):=by rw[hL];exact H7 _ w 3 _ _ rfl
 have ra:=K0.row64 ha;rw[aA]at ra;clear hL;go_enter Tryz.func133,Tryz.ntmps133;go_wp2_with fail;rw[←aA];clear aA ra K0;go_loopw [16] (fun x wr=>∃i:Nat,i≤4∧x=.int .i64 (i:Int)∧Bk wr (w.heap.size+1) 216 (E6 b)∧Bk wr (w.heap.size+2) 216 (E6 (O8 4))∧Bk wr (w.heap.size+3) 257 (E6 (A3e a b i))∧Below w.heap.size w wr) (fun x _=>4-(intOf x).toNat)
 case atStart=>exact ⟨0,by omega,rfl,L0,R0,D0,B0⟩
 case round=>
  clear L0 R0 D0 B0;obtain⟨i,hi,rfl,L,R,D,B⟩:=hrel;by_cases hlt:i<4
  ·obtain⟨x,hx⟩:∃x,x=E7 a i:=⟨_,rfl⟩;obtain⟨t,ht⟩:∃t,t=A3e a b i:=⟨_,rfl⟩;have aD:t.length=8:=by rw[ht];exact Oc a b i
   have HN:Hid (A3e a b (i+1)=(mIn x b i t 4).1.set (i+4) (mIn x b i t 4).2):=Lib.hid (by rw[ht,hx];rfl);have aI:decide ((i:Int)<4)=true:=decide_eq_true (by omega);rw[←ht]at D;clear ht;have aE:=Lib.hid aD;clear aD;have D0:Bk wr (w.heap.size+3) 257 (E6 (mIn x b i t 0).1):=D;have rb:=L.row64 hb;have aF:E7 a i=x:=hx.symm;clear hx D;go_wp2_with fail;clear rb aF;go_loopw [22,8] (fun y c wr=>∃j:Nat,j≤4∧y=.int .i64 (j:Int)∧c=.int .u64 (H6 (mIn x b i t j).2)∧Bk wr (w.heap.size+1) 216 (E6 b)∧Bk wr (w.heap.size+2) 216 (E6 (O8 4))∧Bk wr (w.heap.size+3) 257 (E6 (mIn x b i t j).1)∧Below w.heap.size w wr) (fun y _ _=>4-(intOf y).toNat)
   case atStart=>exact ⟨0,by omega,rfl,rfl,L,R,D0,B⟩
   case round=>
    clear L R D0 B;obtain⟨j,hj,rfl,rfl,L,R,D,B⟩:=hrel;by_cases hlj:j<4
    ·obtain⟨u,hu⟩:∃u,u=(mIn x b i t j).1:=⟨_,rfl⟩;obtain⟨c,hc⟩:∃c,c=(mIn x b i t j).2:=⟨_,rfl⟩;obtain⟨q,hq⟩:∃q,q=i+j:=⟨_,rfl⟩;obtain⟨y,hy⟩:∃y,y=E7 b j:=⟨_,rfl⟩;obtain⟨v,hv⟩:∃v,v=E7 u q:=⟨_,rfl⟩;have aC:u.length=8:=by rw[hu,Kk];exact aE.out
     have HI:Hid (mIn x b i t (j+1)=(u.set q (mT x y v c),mC x y v c)):=Lib.hid (by rw[hv,hy,hu,hc,hq];rfl);rw[←hu]at D;rw[←hc];have aJ:(i:Int)+(j:Int)=(q:Int):=by omega
     have aK:q<8:=by omega
     have aL:decide ((j:Int)<4)=true:=decide_eq_true (by omega);have d0:=D.at_ (Q1 (l:=u) (i:=q) (by omega));rw[←hv]at d0;have aM:E7 b j=y:=hy.symm;have f0:=D.frozen q;have D3:=D.set_ q (.int .u64 (H6 (mT x y v c)));rw[Fd]at D3;clear hu hc hq hy hv aC;go_wp2_with fail;refine (Wc x y wr).mono ?_;rintro e w2 ⟨rfl,rfl⟩;go_wp2_with fail;go_roundw;case rel=>exact ⟨j+1,by omega,by go_num,by rw[HI.out];rfl,L.far (by show w.heap.size+1≠w.heap.size+3;omega) _,R.far (by show w.heap.size+2≠w.heap.size+3;omega) _,by rw[HI.out];exact D3,B.setCell (by show w.heap.size≤w.heap.size+3;omega) _⟩
     case measure=>simp[intOf];omega
    ·obtain rfl:j=4:=by omega
     have e4:((4:Nat):Int)=4:=rfl;rw[e4];clear e4;obtain⟨u,hu⟩:∃u,u=(mIn x b i t 4).1:=⟨_,rfl⟩;obtain⟨c,hc⟩:∃c,c=(mIn x b i t 4).2:=⟨_,rfl⟩;have aC:u.length=8:=by rw[hu,Kk];exact aE.out
     have HI:Hid (A3e a b (i+1)=u.set (i+4) c):=Lib.hid (by rw[HN.out,hu,hc]);rw[←hu]at D;rw[←hc];have aN:((i:Int)+4).toNat=i+4:=by omega
     have d0:=D.at_ (Q1 (l:=u) (i:=i+4) (by omega));have f0:=D.frozen (i+4);have D3:=D.set_ (i+4) (.int .u64 (H6 c));rw[Fd]at D3;clear hu hc aC;go_wp2_with fail;go_roundw;case rel=>exact ⟨i+1,by omega,by go_num,L.far (by show w.heap.size+1≠w.heap.size+3;omega) _,R.far (by show w.heap.size+2≠w.heap.size+3;omega) _,by rw[HI.out];exact D3,B.setCell (by show w.heap.size≤w.heap.size+3;omega) _⟩
     case measure=>simp[intOf];omega
  ·obtain rfl:i=4:=by omega
   have e4:((4:Nat):Int)=4:=rfl;rw[e4];clear e4;obtain⟨ws,aB⟩:∃l,l=A3e a b 4:=⟨_,rfl⟩;have aG:ws.length=8:=by rw[aB];exact Oc a b 4
   have HS:Hid (B4u a b=Og ws):=Lib.hid (by rw[aB];rfl);rw[←aB]at D;clear aB;go_wp2_with fail;refine (A4q ws 8 (w.heap.size+3) _ aG (by decide) wr D).mono ?_;rintro e w2 ⟨rfl,b2⟩;have R2:=R.below b2 R.lt;have B2:=C0 B b2 B.size;have hl:=Ed ws;have aH:E4 w2 ⟨w.heap.size+2,0,none⟩ 4=true:=R2.can (by simp);go_wp2_with fail;refine bodyPost_ret (C8 rfl _ _ _ _ _ _ rfl (R2.puts (vs:=E6 (Og ws)) (by simp[hl])) Dq rfl (by simp[Il,hl])) rfl ⟨by rw[HS.out];rfl,C1 B2 (by show w.heap.size≤w.heap.size+2;omega) _⟩
theorem B7e:(Tryz.prog.info? 29).map (fun i=>(i.zero,i.size,i.bytes))=some (some (.slice none 0 0),1,24):=by kernel_rfl
theorem M5.one_cells {w:World} {B:Nat} {vs:List Value} {ls:List (List UInt8)} (h2:vs.length=ls.length) (h3:∀(i:Nat) (x:Value) (l:List UInt8),vs[i]?=some x→ls[i]?=some l→By w 0 B x l):∀u∈vs,u.oneCell'=true:=by
 intro u hu;obtain⟨i,hi⟩:=List.getElem?_of_mem hu;have aA:=(List.getElem?_eq_some_iff.1 hi).1;obtain⟨A,c,rfl,_⟩:=(h3 i u _ hi (List.getElem?_eq_getElem (by omega))).open_;rfl
theorem M5.join {w w':World} {v:Value} {vs vs':List Value} {ls ls':List (List UInt8)} (hv:vs.length=ls.length) (hv':vs'.length=ls'.length) (hs:Sl w' 0 w'.heap.size v (vs++vs')) (hb:Below w.heap.size w w')
 (h3:∀(i:Nat) (x:Value) (l:List UInt8),vs[i]?=some x→ls[i]?=some l→By w 0 w.heap.size x l) (h3':∀(i:Nat) (x:Value) (l:List UInt8),vs'[i]?=some x→ls'[i]?=some l→By w 0 w.heap.size x l):M5 w' w'.heap.size v (ls++ls'):=by
 refine ⟨vs++vs',hs,by simp[hv,hv'],fun i x l hx hl=>?_⟩;by_cases hi:i<vs.length
 ·rw[List.getElem?_append_left hi]at hx;rw[List.getElem?_append_left (by omega)]at hl;exact ((h3 i x l hx hl).below hb).more hb.size
 ·rw[List.getElem?_append_right (by omega)]at hx;rw[List.getElem?_append_right (by omega),←hv]at hl;exact ((h3' _ x l hx hl).below hb).more hb.size
theorem C9j (g o n:Nat) (vp:Value) (vs vs':List Value) (w:World) (ha:Sl w 0 w.heap.size (.slice (some ⟨g,o,none⟩) n n) vs) (hp:Sl w 0 w.heap.size vp vs') (honec:∀u∈vs',u.oneCell'=true) (h0:0<vs'.length) (hsz:vs.length+vs'.length≤1000000) :
 Calls Tryz.prog 130 #[vp,.slice (some ⟨g,o,none⟩) n n] w fun e w'=>∃v,e=.returned v∧Sl w' w.heap.size w'.heap.size v (vs++vs')∧Below w.heap.size w w':=by
 obtain⟨A,c,e1,h1,h2,aF⟩:=ha;obtain⟨A',c',rfl,aQ,aR,aA⟩:=hp;injection e1 with e1 e2 e3;subst e1 e2 e3;obtain⟨i0,aG,aH,aI,aJ⟩:=info_parts B7e;have hn:vs'.length≠0:=by omega
 have aB:∀j u,vs[j]?=some u→w.cell? ⟨g,o+j,none⟩=some u:=by
  rcases aF with h | ⟨g',o',e,_,_,hc⟩
  ·intro j u hj;rw[h]at hj;cases hj
  ·injection e with e;injection e with e1 e2;subst e1 e2;exact hc
 rcases aA with h | ⟨g',o',rfl,_,_,hc'⟩
 ·rw[h]at hn;exact absurd rfl hn
 have aS:Hid _:=Lib.hid aB;have aK:Hid _:=Lib.hid hc';have aC:Hid _:=Lib.hid honec;have aL:=Lib.hid aG;have aM:=Lib.hid aH;have aN:=Lib.hid aI;have aO:=Lib.hid aJ;have K1:Hid (some (⟨g,o,none⟩:Addr)=none→vs.length=0∧vs.length=0):=Lib.hid (fun h=>by cases h);have K2:Hid (vs.length=vs.length*1):=Lib.hid (by omega);have K3:Hid (∀b:Addr,some (⟨g,o,none⟩:Addr)=some b→∀j u,vs[j]?=some u→w.cell? (b.add j)=some u):=Lib.hid (fun b hb j u hj=>by injection hb with hb;subst hb;rw[Q4];exact aB j u hj);have K4:Hid (vs'.length=vs'.length*1):=Lib.hid (by omega);have K5:Hid (∀j u,vs'[j]?=some u→w.cell? ((⟨g',o',none⟩:Addr).add j)=some u):=Lib.hid (fun j u hj=>by rw[Q4];exact hc' j u hj);have K6:Hid (vs.length<vs.length+vs'.length):=Lib.hid (by omega);have K7:Hid (vs.length+vs'.length≤maxLen):=Lib.hid (by simp only[maxLen];omega);have K8:Hid ((vs.length+vs'.length)*24≤140737488355328):=Lib.hid (by omega);clear aB hc' honec aG aH aI aJ aF;go_enter Tryz.func130,Tryz.ntmps130;go_wp2_with (at_builtin;refine wpList_append_grows _ rfl _ _ 74 rfl 29 i0 _ 1 24 Tryz.underlying74 aL.out aM.out aN.out aO.out rfl (by decide) (some ⟨g,o,none⟩) vs.length vs.length vs rfl K1.out K2.out K3.out ⟨g',o',none⟩ vs'.length c' vs' rfl K4.out K5.out aC.out K6.out K7.out K8.out ?_;intro v' w' aD aP);have aE:Below w.heap.size w w':=(Below.refl w.heap.size w).grown aP (Nat.le_refl _) (fun k hk=>by cases hk);go_ret;exact ⟨v',rfl,Sl.of_own aD,aE⟩
theorem M5.up {w w':World} {v:Value} {ls:List (List UInt8)} (h:M5 w w.heap.size v ls) (hb:Below w.heap.size w w'):M5 w' w'.heap.size v ls:=(h.below hb).more hb.size
theorem By.up {w w':World} {v:Value} {l:List UInt8} (h:By w 0 w.heap.size v l) (hb:Below w.heap.size w w'):By w' 0 w'.heap.size v l:=(h.below hb).more hb.size
theorem Bk.by {w:World} {g:Nat} {t:TypeId} {l m:List UInt8} (K:Bk w g t (c8 l)) (o n c:Nat) (hn:o+n≤l.length) (hc:n≤c) (hc2:c≤9223372036854775807) (hm:(l.drop o).take n=m):By w 0 w.heap.size (.slice (some ⟨g,o,none⟩) n c) m:=by
 have aA:m.length=n:=by rw[←hm];simp;omega
 have:=By.mk_ (w:=w) (lo:=0) (B:=w.heap.size) (A:=some ⟨g,o,none⟩) (c:=c) (l:=m) (by omega) (by unfold maxLen;exact hc2) (.inr ⟨g,o,rfl,Nat.zero_le _,K.lt,fun j u hj=>K.at_ (by
  have h1:j<m.length:=by have:=(List.getElem?_eq_some_iff.1 hj).1;simpa using this
  rw[←hj,←hm];simp only[c8,List.map_take,List.map_drop,List.getElem?_take,List.getElem?_drop];rw[if_pos (by omega)])⟩)
 rwa [aA]at this
theorem Bk.byAll {w:World} {g:Nat} {t:TypeId} {l:List UInt8} {n:Nat} (K:Bk w g t (c8 l)) (hl:l.length=n) (hn:n≤9223372036854775807):By w 0 w.heap.size (.slice (some ⟨g,0,none⟩) n n) l:=
 K.by 0 n n (by omega) (Nat.le_refl _) hn (by rw[List.drop_zero,List.take_of_length_le (by omega)])
def zs (i:Nat) (d:Tmp) (n:Nat) (ls:List (List UInt8)):Soup:=⟨i,d,fun v w=>∃g,v=.slice (some ⟨g,0,none⟩) n n∧M5 w w.heap.size v ls,false⟩
def zp (i:Nat) (d:Tmp) (ls:List (List UInt8)):Soup:=⟨i,d,fun v w=>M5 w w.heap.size v ls,false⟩
def zb (i:Nat) (d:Tmp) (l:List UInt8):Soup:=⟨i,d,fun v w=>By w 0 w.heap.size v l,false⟩
theorem zs_mono (i:Nat) (d:Tmp) (n:Nat) (ls:List (List UInt8)):(zs i d n ls).mono:=fun _ _ _ ⟨g,e,h⟩ hb=>⟨g,e,h.up hb⟩
theorem zb_mono (i:Nat) (d:Tmp) (l:List UInt8):(zb i d l).mono:=fun _ _ _ h hb=>h.up hb
def Ye (l:List UInt8):List UInt64:=Zk (Ww l)
theorem A0u (l:List UInt8):(Ye l).length=4:=Gh _
theorem B4g (vp:Value) (ls:List (List UInt8)) (w:World) (hp:M5 w w.heap.size vp ls) (hsz:ls.flatten.length≤1099511627776):Calls Tryz.prog 129 #[vp] w fun e w'=>e=.returned (J0 (Ye ls.flatten))∧Below w.heap.size w w':=by
 obtain⟨W0,aA⟩:∃z,z=w.alloc (Obj.cells (E6 (O8 4)).toArray 216):=⟨_,rfl⟩;have B0:Below w.heap.size w W0:=by rw[aA];exact (Below.refl _ _).alloc (Nat.le_refl _) _
 have R0:Bk W0 w.heap.size 216 (E6 (O8 4)):=by rw[aA];exact Bk.new w _ _
 have P0:=Lib.hid (hp.up B0);clear hp;go_enter Tryz.func129,Tryz.ntmps129;go_wp2_with fail;rw[←aA];clear aA;refine (A1l vp ls W0 P0.out hsz).mono ?_;rintro e w1 ⟨rfl,b1⟩;have R1:=R0.below b1 R0.lt;have B1:=C0 B0 b1 B0.size;obtain⟨h,hh⟩:∃h,h=Ww ls.flatten:=⟨_,rfl⟩;have hl:h.length=64:=by rw[hh];exact Sr _
 have HN:Hid (Ye ls.flatten=Zk h):=Lib.hid (by rw[hh];rfl);rw[←hh];clear hh;go_wp2_with fail;refine (A4d h hl w1).mono ?_;rintro e w2 ⟨rfl,b2⟩;have R2:=R1.below b2 R1.lt;have B2:=C0 B1 b2 B1.size;have aB:=Gh h;have aC:E4 w2 ⟨w.heap.size,0,none⟩ 4=true:=R2.can (by simp);go_wp2_with fail;refine bodyPost_ret (C8 rfl _ _ _ _ _ _ rfl (R2.puts (vs:=E6 (Zk h)) (by simp[aB])) Dq rfl (by simp[Il,aB])) rfl ⟨by rw[HN.out];rfl,C1 B2 (Nat.le_refl _) _⟩
theorem RG' {P Q : Prop} (q : Q) (h : Q → P := by
  intro q
  rw [C7]
  dsimp only [H9, List.foldl, zv, za, zs, zp, zb]
  simp only [List.set_cons_succ, List.set_cons_zero]
  exact q) : P := h q
theorem KG' {Q : World → Prop} {P : Prop} (c : ∀ W, Q W) (h : (∀ W, Q W) → P := by
  intro c o ho us W hW hp Q' hQ'
  obtain rfl := Option.some.inj ho
  clear hp ho
  rw [C7] at hQ' ⊢
  dsimp only [D8, H9, List.foldl, zv, za, zs, zp, zb] at hQ' ⊢
  simp only [List.set_cons_succ, List.set_cons_zero]
  go_wp2_with fail
  refine (c W).mono ?_
  rintro e W2 ⟨rfl, b2⟩
  go_wp2_with fail
  exact F0 (hQ' _ _ b2 rfl (fun h => by cases h)) (by kernel_rfl)) : P := h c
end Go.Proofs.YtdfpoofbgjilgaaGreat
