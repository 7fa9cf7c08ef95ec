/- A part of the proof of AuditBatch. -/
import Derived.Outline
import Derived.Test.YtdfpoofbgjilgaaGreatUay
set_option linter.unusedVariables false
set_option linter.unusedSimpArgs false
set_option maxRecDepth 100000
set_option maxHeartbeats 40000000
namespace Go.Proofs.YtdfpoofbgjilgaaGreat
open Go Go.RowKit Sh
theorem C6z (y:UInt8):(n8 (y &&& 1)==1)=(y &&& 1==1):=by
 have h:∀z:UInt8,(n8 z==1)=(z==1):=fun z=>by
  unfold n8;rw[Bool.eq_iff_iff,beq_iff_eq,beq_iff_eq,←UInt8.toNat_inj];have:(1:UInt8).toNat=1:=rfl;omega
 exact h _
theorem Ec (k:List UInt8) (n:Nat) (hk:k.length=32) (hn:n<256) (w:World) :
 Calls Tryz.prog 151 #[A8 k,.int .i64 (n:Int)] w fun e w'=>e=.returned (.bool (E8 k n))∧Below w.heap.size w w':=by
 have hc:(w.alloc (.cells (c8 k).toArray 35)).cell? ⟨w.heap.size,n / 8,none⟩=some (.int .u8 (n8 (g8 k (n / 8)))):=(Bk.new w _ _).at_ (Lu (by omega));have hb:Hid (E8 k n=((g8 k (n / 8) >>> UInt8.ofNat (7-n % 8)) &&& 1==1)):=Lib.hid rfl;generalize g8 k (n / 8)=x at *;have h1:(n:Int) / 8=((n / 8:Nat):Int):=by omega
 have hq:n / 8<32:=by omega
 have h2:(n:Int) % 8=((n % 8:Nat):Int):=by omega
 have hr:n % 8<8:=by omega
 generalize hnq:n / 8=q at *;generalize hnr:n % 8=r at *;clear hnq hnr;have aA:r=0∨r=1∨r=2∨r=3∨r=4∨r=5∨r=6∨r=7:=by omega
 rcases aA with rfl | rfl | rfl | rfl | rfl | rfl | rfl | rfl;all_goals
  go_enter Tryz.func151,Tryz.ntmps151;go_wp2;go_ret;refine ⟨?_,(Below.refl _ _).alloc (Nat.le_refl _) _⟩;rw[hb.out];first | exact congrArg (fun b=>Ending.returned (.bool b)) (C0g _) | exact congrArg (fun b=>Ending.returned (.bool b)) (C6z _)
def Pt.Dp:Nat→Pt→Prop
 | d,.nd l r=>d<256∧l.Dp (d+1)∧r.Dp (d+1)
 | _,_=>True
def Pt.get (k:List UInt8):Nat→Pt→List UInt8×Bool×Nat
 | _,.e=>(z8 32,false,0)
 | _,.lf k' v=>if k'=k then (v,true,0) else (z8 32,false,0)
 | _,.hd _=>(z8 32,false,100)
 | d,.nd l r=>if E8 k d then r.get k (d+1) else l.get k (d+1)
theorem Pt.get_length {k:List UInt8}:∀ {p:Pt} {d:Nat},p.Wf→(p.get k d).1.length=32
 | .e,_,_=>by simp[Pt.get]
 | .lf k' v,_,h=>by simp only[Pt.get];split<;>simp[h.2]
 | .hd _,_,_=>by simp[Pt.get]
 | .nd l r,d,h=>by by_cases hb:E8 k d=true<;>simp only[Pt.get,hb,if_true,if_false,Bool.false_eq_true]<;>first | exact Pt.get_length h.2 | exact Pt.get_length h.1
def D4l (x:List UInt8×Bool×Nat):Value:=.tuple #[A8 x.1,.bool x.2.1,.int .i64 (x.2.2:Int)]
theorem C6w (k:List UInt8) (hk:k.length=32) (p:Pt) (hw:p.Wf) (hd:p.Dp 0) (w:World) :
 Calls Tryz.prog 100 #[.agg #[p.val],A8 k] w fun e w'=>e=.returned (D4l (p.get k 0))∧Below w.heap.size w w':=by
 go_enter Tryz.func100,Tryz.ntmps100;go_wp2_with fail;obtain⟨W0,aE⟩:∃x,x=((w.alloc (Obj.cells #[p.val] 122)).alloc (Obj.cells (c8 k).toArray 35)).alloc (Obj.cells (c8 (z8 32)).toArray 35):=⟨_,rfl⟩;rw[←aE];have B0:Below w.heap.size w W0:=by rw[aE];exact (((Below.refl _ _).alloc (Nat.le_refl _) _).alloc (by simp) _).alloc (by simp;omega) _
 have K0:Bk W0 (w.heap.size+1) 35 (c8 k):=by rw[aE];exact (by simpa using Bk.new (w.alloc (Obj.cells #[p.val] 122)) 35 (c8 k):Bk _ _ _ _).alloc _
 have R0:Bk W0 (w.heap.size+1+1) 35 (c8 (z8 32)):=by rw[aE];simpa using Bk.new ((w.alloc (Obj.cells #[p.val] 122)).alloc (Obj.cells (c8 k).toArray 35)) 35 (c8 (z8 32))
 clear aE;have z0:=R0.lt;go_loopw [7,8] (fun n d wr=>∃(q:Pt) (i:Nat),n=q.val∧d=.int .i64 (i:Int)∧i≤256∧q.Wf∧q.Dp i∧p.get k 0=q.get k i∧Below W0.heap.size W0 wr) (fun _ d _=>257-(intOf d).toNat)
 case atStart=>exact ⟨p,0,rfl,rfl,by omega,hw,hd,rfl,Below.refl _ _⟩
 case round=>
  clear hw hd;obtain⟨q,i,rfl,rfl,hi,hw,hd,aF,Br⟩:=hrel;have aA:=Lib.hid aF;clear aF;have Kr:=K0.below Br (by omega);have Rr:=R0.below Br z0;have BB:=C0 B0 Br B0.size;have aL:C6 wr ⟨w.heap.size+1,0,none⟩ 32=some (c8 k):=by have:=Kr.rows;rwa [C3,hk]at this
  have aJ:E4 wr ⟨w.heap.size+1+1,0,none⟩ 32=true:=Rr.can (by simp);cases q with
  | e=>
   dsimp only[Pt.val];go_wp2_with fail;refine bodyPost_ret (J4 rfl (C9.row (Rr.puts (vs:=c8 (z8 32)) (by simp)) rfl _ Tryz.underlying35 rfl (by simp[J5])) (C9.tmp rfl) (C9.tmp rfl)) rfl ⟨?_,C1 BB (by simp;omega) _⟩;rw[aA.out];rfl
  | hd h=>
   have aM:h.length=32:=hw;obtain⟨W,hW⟩:∃y,y=C5 (wr.alloc (Obj.cells (c8 (z8 32)).toArray 233)) ⟨wr.heap.size,0,none⟩ (c8 h):=⟨_,rfl⟩;have aC:Below wr.heap.size wr W:=by rw[hW];exact C1 ((Below.refl _ _).alloc (Nat.le_refl _) _) (Nat.le_refl _) _
   have R1:=Rr.below aC Rr.lt;have B1:=C0 BB aC BB.size;have aB:E4 W ⟨w.heap.size+1+1,0,none⟩ 32=true:=R1.can (by simp);rw[hW]at aB;dsimp only[Pt.val];go_wp2_with fail;rw[←hW];refine bodyPost_ret (J4 rfl (C9.row (R1.puts (vs:=c8 (z8 32)) (by simp)) rfl _ Tryz.underlying35 rfl (by simp[J5])) (C9.tmp rfl) (C9.tmp rfl)) rfl ⟨?_,C1 B1 (by simp;omega) _⟩;rw[aA.out];rfl
  | lf k' v=>
   have aG:k'.length=32:=hw.1;have hv:v.length=32:=hw.2;have aH:(pb (k',v)).length=64:=Xu.len ⟨aG,hv⟩;obtain⟨W,hW⟩:∃y,y=C5 (wr.alloc (Obj.cells (c8 (z8 64)).toArray 237)) ⟨wr.heap.size,0,none⟩ (c8 (pb (k',v))):=⟨_,rfl⟩;have aC:Below wr.heap.size wr W:=by rw[hW];exact C1 ((Below.refl _ _).alloc (Nat.le_refl _) _) (Nat.le_refl _) _
   have P1:Bk W wr.heap.size 237 (c8 (pb (k',v))):=by rw[hW];exact Bk.fresh wr _ (by simp[aH])
   have R1:=Rr.below aC Rr.lt;have K1:=Kr.below aC Kr.lt;have B1:=C0 BB aC BB.size;have aB:E4 W ⟨w.heap.size+1+1,0,none⟩ 32=true:=R1.can (by simp);have rk:=Hg P1 ⟨aG,hv⟩;have rv:=A2a P1 ⟨aG,hv⟩;have aD:C6 W ⟨w.heap.size+1,0,none⟩ 32=some (c8 k):=by have:=K1.rows;rwa [C3,hk]at this
   rw[hW]at aB rk rv aD;dsimp only[Pt.val];by_cases e:k'=k
   ·subst e;have aK:(k'==k')=true:=by simp
    go_wp2_with fail;rw[←hW];refine bodyPost_ret (J4 rfl (C9.row (R1.puts (vs:=c8 v) (by simp[hv])) rfl _ Tryz.underlying35 rfl (by simp[J5,hv])) (C9.tmp rfl) (C9.tmp rfl)) rfl ⟨?_,C1 B1 (by simp;omega) _⟩;rw[aA.out];simp only[Pt.get,if_true];rfl
   ·have aK:(k'==k)=false:=by simp[e]
    go_wp2_with fail;rw[←hW];refine bodyPost_ret (J4 rfl (C9.row (R1.puts (vs:=c8 (z8 32)) (by simp)) rfl _ Tryz.underlying35 rfl (by simp[J5])) (C9.tmp rfl) (C9.tmp rfl)) rfl ⟨?_,C1 B1 (by simp;omega) _⟩;rw[aA.out];simp only[Pt.get,if_neg e];rfl
  | nd l r=>
   obtain⟨W,hW⟩:∃y,y=wr.alloc (Obj.cells #[l.val,r.val] 244):=⟨_,rfl⟩;have aC:Below wr.heap.size wr W:=by rw[hW];exact (Below.refl _ _).alloc (Nat.le_refl _) _
   have P1:Bk W wr.heap.size 244 [l.val,r.val]:=by rw[hW];exact Bk.new wr _ [l.val,r.val]
   have K1:=Kr.below aC Kr.lt;have aD:C6 W ⟨w.heap.size+1,0,none⟩ 32=some (c8 k):=by have:=K1.rows;rwa [C3,hk]at this
   have c0:W.cell? ⟨wr.heap.size,0,none⟩=some l.val:=P1.at_ rfl;have c1:W.cell? ⟨wr.heap.size,1,none⟩=some r.val:=P1.at_ rfl;rw[hW]at aD c0 c1;dsimp only[Pt.val];go_wp2_with fail;rw[←hW];clear c0 c1 aD;refine (Ec k i hk hd.1 W).mono ?_;rintro e W2 ⟨rfl,h2⟩;have P2:=P1.below h2 P1.lt;have aI:Below W0.heap.size W0 W2:=(Br.trans (aC.mono Br.size)).trans (h2.mono (by have:=Br.size;have:=aC.size;omega));have c1:W2.cell? ⟨wr.heap.size,1,none⟩=some r.val:=P2.at_ rfl;have aN:=hd.1;cases hbit:E8 k i
   ·go_wp2_with fail;go_roundw;case rel=>exact ⟨l,i+1,rfl,by go_num,by omega,hw.1,hd.2.1,by rw[aA.out];simp only[Pt.get,hbit];rfl,aI⟩
    case measure=>simp[intOf];omega
   ·go_wp2_with fail;go_roundw;case rel=>exact ⟨r,i+1,rfl,by go_num,by omega,hw.2,hd.2.2,by rw[aA.out];simp only[Pt.get,hbit];rfl,aI⟩
    case measure=>simp[intOf];omega
section
def Pt.Ok:Nat→(Nat→Bool)→Pt→Prop
 | _,_,.e=>True
 | d,P,.lf k v=>k.length=32∧v.length=32∧∀i,i<d→E8 k i=P i
 | d,P,.nd l r=>d<256∧l.Ok (d+1) (Fy P d false)∧r.Ok (d+1) (Fy P d true)
 | _,_,.hd h=>h.length=32
theorem Pt.Ok.wf:∀ {p:Pt} {d:Nat} {P:Nat→Bool},p.Ok d P→p.Wf
 | .e,_,_,_=>trivial
 | .lf _ _,_,_,h=>⟨h.1,h.2.1⟩
 | .nd _ _,_,_,h=>⟨h.2.1.wf,h.2.2.wf⟩
 | .hd _,_,_,h=>h
theorem Pt.Ok.dp:∀ {p:Pt} {d:Nat} {P:Nat→Bool},p.Ok d P→p.Dp d
 | .e,_,_,_=>trivial
 | .lf _ _,_,_,h=>trivial
 | .nd _ _,_,_,h=>⟨h.1,h.2.1.dp,h.2.2.dp⟩
 | .hd _,_,_,h=>trivial
def Pt.put (k v:List UInt8):Nat→Nat→Pt→Option Pt
 | _,_,.e=>some (.lf k v)
 | _,_,.hd _=>none
 | 0,_,.lf k' _=>if k'=k then some (.lf k v) else none
 | 0,_,.nd _ _=>none
 | f+1,d,.lf k' v'=>if k'=k then some (.lf k v) else
  if E8 k d then (Pt.put k v f (d+1) (if E8 k' d then .lf k' v' else .e)).map (.nd (if E8 k' d then .e else .lf k' v'))
  else (Pt.put k v f (d+1) (if E8 k' d then .e else .lf k' v')).map (fun x=>.nd x (if E8 k' d then .lf k' v' else .e))
 | f+1,d,.nd l r=>if E8 k d then (Pt.put k v f (d+1) r).map (.nd l) else (Pt.put k v f (d+1) l).map (fun x=>.nd x r)
def Vg (o:Option Pt) (q:Pt) (n:Int):Prop:=match o with | some x=>x=q∧n=0 | none=>n=100
theorem Xa (k v:List UInt8) (hk:k.length=32) (hv:v.length=32) (d:Nat) (w:World) (h:List UInt8) (hh:h.length=32):Calls Tryz.prog 156 #[(Pt.hd h).val,.int .i64 (d:Int),A8 k,A8 v] w fun e w'=>e=.returned (.tuple #[Pt.e.val,.int .i64 100])∧Below w.heap.size w w':=by
 obtain⟨W0,aA⟩:∃x,x=((w.alloc (Obj.cells (c8 k).toArray 35)).alloc (Obj.cells (c8 v).toArray 35)).alloc (Obj.cells #[.nilIface,.nilIface] 244):=⟨_,rfl⟩;have B0:Below w.heap.size w W0:=by rw[aA];exact (((Below.refl _ _).alloc (Nat.le_refl _) _).alloc (by simp) _).alloc (by simp;omega) _
 have z3:W0.heap.size=w.heap.size+1+1+1:=by rw[aA];simp
 obtain⟨W1,aC⟩:∃x,x=C5 (W0.alloc (Obj.cells (c8 (z8 32)).toArray 233)) ⟨W0.heap.size,0,none⟩ (c8 h):=⟨_,rfl⟩;have B1:Below w.heap.size w W1:=by rw[aC];exact C1 (B0.alloc B0.size _) (by exact B0.size) _
 have aB:E4 (W0.alloc (Obj.cells (c8 (z8 32)).toArray 233)) ⟨W0.heap.size,0,none⟩ 32=true:=(Bk.new W0 _ _).can (by simp);rw[z3,aA]at aB;dsimp only[Pt.val];go_enter Tryz.func156,Tryz.ntmps156;go_wp2_with fail;rw[←aA];rw[←z3,←aC];exact bodyPost_ret (E3 rfl (C9.tmp rfl) (C9.tmp rfl)) rfl ⟨rfl,B1⟩
section
variable (k v : List UInt8) (hk : k.length = 32) (hv : v.length = 32) (d : Nat) (w : World)
include hk hv
theorem B0b:Calls Tryz.prog 156 #[Pt.e.val,.int .i64 (d:Int),A8 k,A8 v] w fun e w'=>e=.returned (.tuple #[(Pt.lf k v).val,.int .i64 0])∧Below w.heap.size w w':=by
 obtain⟨W0,aA⟩:∃x,x=((w.alloc (Obj.cells (c8 k).toArray 35)).alloc (Obj.cells (c8 v).toArray 35)).alloc (Obj.cells #[.nilIface,.nilIface] 244):=⟨_,rfl⟩;have B0:Below w.heap.size w W0:=by rw[aA];exact (((Below.refl _ _).alloc (Nat.le_refl _) _).alloc (by simp) _).alloc (by simp;omega) _
 have K0:Bk W0 w.heap.size 35 (c8 k):=by rw[aA];exact ((Bk.new w _ _).alloc _).alloc _
 have V0:Bk W0 (w.heap.size+1) 35 (c8 v):=by rw[aA];exact (by simpa using Bk.new (w.alloc (Obj.cells (c8 k).toArray 35)) 35 (c8 v):Bk _ _ _ _).alloc _
 have rk:C6 W0 ⟨w.heap.size,0,none⟩ 32=some (c8 k):=by have:=K0.rows;rwa [C3,hk]at this
 have rv:C6 W0 ⟨w.heap.size+1,0,none⟩ 32=some (c8 v):=by have:=V0.rows;rwa [C3,hv]at this
 rw[aA]at rk rv;dsimp only[Pt.val];go_enter Tryz.func156,Tryz.ntmps156;go_wp2_with fail;rw[←aA];exact bodyPost_ret (E3 rfl (C9.tmp rfl) (C9.tmp rfl)) rfl ⟨rfl,B0⟩
theorem A4g (v':List UInt8) (hv':v'.length=32):Calls Tryz.prog 156 #[(Pt.lf k v').val,.int .i64 (d:Int),A8 k,A8 v] w fun e w'=>e=.returned (.tuple #[(Pt.lf k v).val,.int .i64 0])∧Below w.heap.size w w':=by
 obtain⟨W0,aA⟩:∃x,x=((w.alloc (Obj.cells (c8 k).toArray 35)).alloc (Obj.cells (c8 v).toArray 35)).alloc (Obj.cells #[.nilIface,.nilIface] 244):=⟨_,rfl⟩;have B0:Below w.heap.size w W0:=by rw[aA];exact (((Below.refl _ _).alloc (Nat.le_refl _) _).alloc (by simp) _).alloc (by simp;omega) _
 have K0:Bk W0 w.heap.size 35 (c8 k):=by rw[aA];exact ((Bk.new w _ _).alloc _).alloc _
 have V0:Bk W0 (w.heap.size+1) 35 (c8 v):=by rw[aA];exact (by simpa using Bk.new (w.alloc (Obj.cells (c8 k).toArray 35)) 35 (c8 v):Bk _ _ _ _).alloc _
 have z3:W0.heap.size=w.heap.size+1+1+1:=by rw[aA];simp
 have aC:(pb (k,v')).length=64:=Xu.len ⟨hk,hv'⟩;obtain⟨W1,aB⟩:∃x,x=C5 (W0.alloc (Obj.cells (c8 (z8 64)).toArray 237)) ⟨W0.heap.size,0,none⟩ (c8 (pb (k,v'))):=⟨_,rfl⟩;have aD:Below W0.heap.size W0 W1:=by rw[aB];exact C1 ((Below.refl _ _).alloc (Nat.le_refl _) _) (Nat.le_refl _) _
 have P1:Bk W1 W0.heap.size 237 (c8 (pb (k,v'))):=by rw[aB];exact Bk.fresh W0 _ (by simp[aC])
 have K1:=K0.below aD K0.lt;have V1:=V0.below aD V0.lt;have B1:=C0 B0 aD B0.size;have rk:C6 W1 ⟨w.heap.size,0,none⟩ 32=some (c8 k):=by have:=K1.rows;rwa [C3,hk]at this
 have rv:C6 W1 ⟨w.heap.size+1,0,none⟩ 32=some (c8 v):=by have:=V1.rows;rwa [C3,hv]at this
 have rp:=Hg P1 ⟨hk,hv'⟩;have aF:(k==k)=true:=by simp
 have aE:E4 (W0.alloc (Obj.cells (c8 (z8 64)).toArray 237)) ⟨W0.heap.size,0,none⟩ 64=true:=(Bk.new W0 _ _).can (by simp);rw[z3,aA]at aE;rw[aB,z3,aA]at rk rv rp;dsimp only[Pt.val];go_enter Tryz.func156,Tryz.ntmps156;go_wp2_with fail;rw[←aA,←z3,←aB];exact bodyPost_ret (E3 rfl (C9.tmp rfl) (C9.tmp rfl)) rfl ⟨rfl,B1⟩
end
theorem Pt.form:∀p:Pt,p.val=.nilIface∨∃t x,p.val=.iface t x
 | .e=>.inl rfl
 | .lf _ _=>.inr ⟨_,_,rfl⟩
 | .nd _ _=>.inr ⟨_,_,rfl⟩
 | .hd _=>.inr ⟨_,_,rfl⟩
theorem U3 {k:List UInt8} {d:Nat} {P:Nat→Bool} {b:Bool} (ha:∀i,i<d→E8 k i=P i) (hb:E8 k d=b):∀i,i<d+1→E8 k i=Fy P d b i:=by
 intro i hi;rcases Nat.lt_or_ge i d with h | h
 ·rw[Vq _ _ h,ha i h]
 ·obtain rfl:i=d:=by omega
  rw[A7o,hb]
theorem C9p (k v:List UInt8) (hk:k.length=32) (hv:v.length=32):∀(f d:Nat) (p:Pt) (P:Nat→Bool) (w:World),f+d=256→p.Ok d P→(∀i,i<d→E8 k i=P i)→
 Calls Tryz.prog 156 #[p.val,.int .i64 (d:Int),A8 k,A8 v] w fun e w'=>∃(q:Pt) (n:Int),e=.returned (.tuple #[q.val,.int .i64 n])∧Vg (p.put k v f d) q n∧Below w.heap.size w w':=by
 intro f;induction f with
 | zero=>
  intro d p P w cJ ok ha;cases p with
  | e=>exact (B0b k v hk hv d w).mono fun e w' ⟨h1,h2⟩=>⟨.lf k v,0,h1,⟨rfl,rfl⟩,h2⟩
  | hd h=>exact (Xa k v hk hv d w h ok).mono fun e w' ⟨h1,h2⟩=>⟨.e,100,h1,rfl,h2⟩
  | lf k' v'=>
   have e:k'=k:=Lg ok.1 hk fun i hi=>by rw[ok.2.2 i (by omega),ha i (by omega)]
   subst e;exact (A4g k' v ok.1 hv d w v' ok.2.1).mono fun e w' ⟨h1,h2⟩=>⟨.lf k' v,0,h1,by simp[Pt.put,Vg],h2⟩
  | nd l r=>exact absurd ok.1 (by omega)
 | succ f ih=>
  intro d p P w cJ ok ha;obtain⟨W0,aK⟩:∃x,x=((w.alloc (Obj.cells (c8 k).toArray 35)).alloc (Obj.cells (c8 v).toArray 35)).alloc (Obj.cells #[.nilIface,.nilIface] 244):=⟨_,rfl⟩;have B0:Below w.heap.size w W0:=by rw[aK];exact (((Below.refl _ _).alloc (Nat.le_refl _) _).alloc (by simp) _).alloc (by simp;omega) _
  have K0:Bk W0 w.heap.size 35 (c8 k):=by rw[aK];exact ((Bk.new w _ _).alloc _).alloc _
  have V0:Bk W0 (w.heap.size+1) 35 (c8 v):=by rw[aK];exact (by simpa using Bk.new (w.alloc (Obj.cells (c8 k).toArray 35)) 35 (c8 v):Bk _ _ _ _).alloc _
  have A0:Bk W0 (w.heap.size+1+1) 244 [.nilIface,.nilIface]:=by rw[aK];simpa using Bk.new ((w.alloc (Obj.cells (c8 k).toArray 35)).alloc (Obj.cells (c8 v).toArray 35)) 244 [.nilIface,.nilIface]
  have z3:W0.heap.size=w.heap.size+1+1+1:=by rw[aK];simp
  have hd:d<256:=by omega
  cases p with
  | e=>exact (B0b k v hk hv d w).mono fun e w' ⟨h1,h2⟩=>⟨.lf k v,0,h1,⟨rfl,rfl⟩,h2⟩
  | hd h=>exact (Xa k v hk hv d w h ok).mono fun e w' ⟨h1,h2⟩=>⟨.e,100,h1,rfl,h2⟩
  | nd l r=>
   obtain⟨W1,aH⟩:∃x,x=(((w.alloc (Obj.cells (c8 k).toArray 35)).alloc (Obj.cells (c8 v).toArray 35)).alloc (Obj.cells #[l.val,r.val] 244)).alloc (Obj.cells #[l.val,r.val] 244):=⟨_,rfl⟩;have AT:Bk W1 (w.heap.size+1+1) 244 [l.val,r.val]:=by rw[aH];exact (by simpa using Bk.new ((w.alloc (Obj.cells (c8 k).toArray 35)).alloc (Obj.cells (c8 v).toArray 35)) 244 [l.val,r.val]:Bk _ _ _ _).alloc _
   have KT:Bk W1 w.heap.size 35 (c8 k):=by rw[aH];exact (((Bk.new w _ _).alloc _).alloc _).alloc _
   have VT:Bk W1 (w.heap.size+1) 35 (c8 v):=by rw[aH];exact ((by simpa using Bk.new (w.alloc (Obj.cells (c8 k).toArray 35)) 35 (c8 v):Bk _ _ _ _).alloc _).alloc _
   have BT:Below w.heap.size w W1:=by rw[aH];exact ((((Below.refl _ _).alloc (Nat.le_refl _) _).alloc (by simp) _).alloc (by simp;omega) _).alloc (by simp;omega) _
   have rk:C6 W1 ⟨w.heap.size,0,none⟩ 32=some (c8 k):=by have:=KT.rows;rwa [C3,hk]at this
   rw[aH]at rk;obtain⟨pp,aX⟩:∃pp,pp=Pt.nd l r:=⟨_,rfl⟩;have aC:pp.put k v (f+1) d=if E8 k d then (r.put k v f (d+1)).map (.nd l) else (l.put k v f (d+1)).map (fun x=>.nd x r):=by rw[aX];simp only[Pt.put]
   have aF:=Lib.hid aC;have bN:=ok.2.1;have bO:=ok.2.2;rw[←aX];have aE:pp.val=.iface 244 (.agg #[l.val,r.val]):=by rw[aX];rfl
   rw[aE];clear aC aE aX ok;go_enter Tryz.func156,Tryz.ntmps156;go_wp2_with fail;rw[←aH];clear rk aH aK B0 K0 V0 A0 z3;obtain⟨WT,aG⟩:∃x,x=W1:=⟨_,rfl⟩;rw[←aG]at AT KT VT BT ⊢;clear aG;obtain⟨gA,bP⟩:∃x,x=w.heap.size+1+1:=⟨_,rfl⟩;rw[←bP]at AT ⊢;have cK:w.heap.size≤gA:=by omega
   clear bP;refine (Ec k d hk hd WT).mono ?_;rintro e W5 ⟨rfl,h5⟩;have A5:=AT.below h5 AT.lt;have K5:=KT.below h5 KT.lt;have V5:=VT.below h5 VT.lt;have B5:=C0 BT h5 BT.size;have f0:=A5.frozen 0;have f1:=A5.frozen 1;clear h5 AT KT VT BT;cases hbit:E8 k d
   ·have aA:pp.put k v (f+1) d=(Pt.put k v f (d+1) (l)).map (fun x=>.nd x (r)):=by rw[aF.out,hbit];rfl
    have aB:=Lib.hid aA;clear aA;go_wp2_with fail;have S0:Below W5.heap.size W5 W5.drew:=(Below.refl _ _).drew;refine D9 (fun W=>Below W5.heap.size W5 W) (by kernel_rfl) ?_;refine C4 (A:=?bQ) [0,1,2,3,4,5,6] (by kernel_rfl) (by kernel_rfl) rfl (by kernel_rfl) (by kernel_rfl) S0 (h:=fun W hW=>?aL) (hr:=?aM);case aL=>
     have c0:W.cell? ⟨gA,0,none⟩=some (l).val:=(A5.below hW A5.lt).at_ rfl;have rk:C6 W ⟨w.heap.size,0,none⟩ 32=some (c8 k):=by have:=(K5.below hW K5.lt).rows;rwa [C3,hk]at this
     have rv:C6 W ⟨w.heap.size+1,0,none⟩ 32=some (c8 v):=by have:=(V5.below hW V5.lt).rows;rwa [C3,hv]at this
     simp only[pick,List.getElem?_cons_zero,List.getElem?_cons_succ];repeat (go_big_quiet_step (fail))
     refine wpQuiet_nil ?_;rfl
    case aM=>
     refine C2 7 (by kernel_rfl) (by rfl) (by rfl) (fun Q' hQ'=>?_);dsimp only[D8];go_wp2_with fail;rw[show (d:Int)+1=((d+1:Nat):Int) from by omega];refine (ih (d+1) (l) (Fy P d false) _ (by omega) bN (U3 ha hbit)).mono ?_;rintro e W6 ⟨q,n,rfl,aD,h6⟩;have S6:=C0 S0 h6 S0.size;have A6:=A5.below S6 A5.lt;have B6:=C0 B5 S6 B5.size;have f0:=A6.frozen 0;have c0:=A6.at_ (i:=0) rfl;go_wp2_with fail;refine hQ' _ _ S6 ?_;clear hQ';refine C4 (A:=?bR) [8,9,10] (by kernel_rfl) (by kernel_rfl) rfl (by kernel_rfl) (by kernel_rfl) S6 (h:=fun W hW=>?aN) (hr:=?aO);case aN=>
      simp only[List.append_eq,List.nil_append,List.cons_append,pick,List.getElem?_cons_zero,List.getElem?_cons_succ];repeat (go_big_quiet_step (fail))
      refine wpQuiet_nil ?_;rfl
     case aO=>
      refine C2 11 (by kernel_rfl) (by rfl) (by rfl) (fun Q' hQ'=>?_);dsimp only[D8];go_wp2_with fail;refine hQ' _ _ S6 ?_;clear hQ';refine C2 12 (by kernel_rfl) (by rfl) (by rfl) (fun Q' hQ'=>?_);dsimp only[D8];go_wp2_with fail;refine hQ' _ _ S6 ?_;clear hQ';refine E5 (by kernel_rfl) ?_;have A7:Bk (W6.setCell ⟨gA,0,none⟩ q.val) gA 244 [q.val,(r).val]:=A6.set_ 0 q.val;have d0:=A7.at_ (i:=0) rfl;have d1:=A7.at_ (i:=1) rfl;clear A6 A7 S6;rcases q.form with hq | ⟨tq,xq,hq⟩;all_goals
       rw[hq]at d0 d1 ⊢;have Hq:=Lib.hid hq;clear hq;go_wp2_with fail;refine bodyPost_ret (E3 rfl (C9.tmp rfl) (C9.tmp rfl)) rfl ⟨.nd q (r),n,by simp only[Pt.val,Hq.out];rfl,?_,B6.setCell (p:=⟨gA,0,none⟩) (by simp;omega) _⟩;rw[aB.out];revert aD;cases Pt.put k v f (d+1) (l) with
       | none=>exact fun h=>h
       | some t=>rintro ⟨rfl,h⟩;exact ⟨rfl,h⟩
   ·have aA:pp.put k v (f+1) d=(Pt.put k v f (d+1) (r)).map (.nd (l)):=by rw[aF.out,hbit];rfl
    have aB:=Lib.hid aA;clear aA;go_wp2_with fail;have S0:Below W5.heap.size W5 W5.drew:=(Below.refl _ _).drew;refine D9 (fun W=>Below W5.heap.size W5 W) (by kernel_rfl) ?_;refine C4 (A:=?cB) [0,1,2,3,4,5,6] (by kernel_rfl) (by kernel_rfl) rfl (by kernel_rfl) (by kernel_rfl) S0 (h:=fun W hW=>?aY) (hr:=?aZ);case aY=>
     have c0:W.cell? ⟨gA,1,none⟩=some (r).val:=(A5.below hW A5.lt).at_ rfl;have rk:C6 W ⟨w.heap.size,0,none⟩ 32=some (c8 k):=by have:=(K5.below hW K5.lt).rows;rwa [C3,hk]at this
     have rv:C6 W ⟨w.heap.size+1,0,none⟩ 32=some (c8 v):=by have:=(V5.below hW V5.lt).rows;rwa [C3,hv]at this
     simp only[pick,List.getElem?_cons_zero,List.getElem?_cons_succ];repeat (go_big_quiet_step (fail))
     refine wpQuiet_nil ?_;rfl
    case aZ=>
     refine C2 7 (by kernel_rfl) (by rfl) (by rfl) (fun Q' hQ'=>?_);dsimp only[D8];go_wp2_with fail;rw[show (d:Int)+1=((d+1:Nat):Int) from by omega];refine (ih (d+1) (r) (Fy P d true) _ (by omega) bO (U3 ha hbit)).mono ?_;rintro e W6 ⟨q,n,rfl,aD,h6⟩;have S6:=C0 S0 h6 S0.size;have A6:=A5.below S6 A5.lt;have B6:=C0 B5 S6 B5.size;have f0:=A6.frozen 1;have c0:=A6.at_ (i:=1) rfl;go_wp2_with fail;refine hQ' _ _ S6 ?_;clear hQ';refine C4 (A:=?cC) [8,9,10] (by kernel_rfl) (by kernel_rfl) rfl (by kernel_rfl) (by kernel_rfl) S6 (h:=fun W hW=>?bA) (hr:=?bB);case bA=>
      simp only[List.append_eq,List.nil_append,List.cons_append,pick,List.getElem?_cons_zero,List.getElem?_cons_succ];repeat (go_big_quiet_step (fail))
      refine wpQuiet_nil ?_;rfl
     case bB=>
      refine C2 11 (by kernel_rfl) (by rfl) (by rfl) (fun Q' hQ'=>?_);dsimp only[D8];go_wp2_with fail;refine hQ' _ _ S6 ?_;clear hQ';refine C2 12 (by kernel_rfl) (by rfl) (by rfl) (fun Q' hQ'=>?_);dsimp only[D8];go_wp2_with fail;refine hQ' _ _ S6 ?_;clear hQ';refine E5 (by kernel_rfl) ?_;have A7:Bk (W6.setCell ⟨gA,1,none⟩ q.val) gA 244 [(l).val,q.val]:=A6.set_ 1 q.val;have d0:=A7.at_ (i:=0) rfl;have d1:=A7.at_ (i:=1) rfl;clear A6 A7 S6;rcases q.form with hq | ⟨tq,xq,hq⟩;all_goals
       rw[hq]at d0 d1 ⊢;have Hq:=Lib.hid hq;clear hq;go_wp2_with fail;refine bodyPost_ret (E3 rfl (C9.tmp rfl) (C9.tmp rfl)) rfl ⟨.nd (l) q,n,by simp only[Pt.val,Hq.out];rfl,?_,B6.setCell (p:=⟨gA,1,none⟩) (by simp;omega) _⟩;rw[aB.out];revert aD;cases Pt.put k v f (d+1) (r) with
       | none=>exact fun h=>h
       | some t=>rintro ⟨rfl,h⟩;exact ⟨rfl,h⟩
  | lf k' v'=>
   have bC:k'.length=32:=ok.1;have bL:v'.length=32:=ok.2.1;by_cases e:k'=k
   ·subst e;exact (A4g k' v bC hv d w v' bL).mono fun e w' ⟨h1,h2⟩=>⟨.lf k' v,0,h1,by simp[Pt.put,Vg],h2⟩
   have cL:(k'==k)=false:=by simp[e]
   have cH:(pb (k',v')).length=64:=Xu.len ⟨bC,bL⟩;obtain⟨W1,aH⟩:∃x,x=C5 (W0.alloc (Obj.cells (c8 (z8 64)).toArray 237)) ⟨W0.heap.size,0,none⟩ (c8 (pb (k',v'))):=⟨_,rfl⟩;have bS:Below W0.heap.size W0 W1:=by rw[aH];exact C1 ((Below.refl _ _).alloc (Nat.le_refl _) _) (Nat.le_refl _) _
   have L1:Bk W1 (w.heap.size+1+1+1) 237 (c8 (pb (k',v'))):=by rw[←z3,aH];exact Bk.fresh W0 _ (by simp[cH])
   have K1:=K0.below bS K0.lt;have V1:=V0.below bS V0.lt;have A1:=A0.below bS A0.lt;have B1:=C0 B0 bS B0.size;have rk:C6 W1 ⟨w.heap.size,0,none⟩ 32=some (c8 k):=by have:=K1.rows;rwa [C3,hk]at this
   have rp:=Hg L1 ⟨bC,bL⟩;have cI:=B3e L1 ⟨bC,bL⟩;have d0:=A1.at_ (i:=0) rfl;have f0:=A1.frozen 0;have bT:E4 (W0.alloc (Obj.cells (c8 (z8 64)).toArray 237)) ⟨W0.heap.size,0,none⟩ 64=true:=(Bk.new W0 _ _).can (by simp);rw[z3,aK]at bT;rw[aH,z3,aK]at rk rp cI d0 f0;obtain⟨W2,bM⟩:∃x,x=W1.setCell ⟨w.heap.size+1+1,0,none⟩ (.iface 237 (A8 (pb (k',v')))):=⟨_,rfl⟩;have L2:Bk W2 (w.heap.size+1+1+1) 237 (c8 (pb (k',v'))):=by rw[bM];exact L1.far (by simp) _
   have A2:Bk W2 (w.heap.size+1+1) 244 [.iface 237 (A8 (pb (k',v'))),.nilIface]:=by rw[bM];exact A1.set_ 0 _
   have K2:Bk W2 w.heap.size 35 (c8 k):=by rw[bM];exact K1.far (by simp;omega) _
   have V2:Bk W2 (w.heap.size+1) 35 (c8 v):=by rw[bM];exact V1.far (by simp) _
   have B2:Below w.heap.size w W2:=by rw[bM];exact B1.setCell (p:=⟨w.heap.size+1+1,0,none⟩) (by simp;omega) _
   have rq:=Hg L2 ⟨bC,bL⟩;rw[bM,aH,z3,aK]at rq;obtain⟨pp,aX⟩:∃pp,pp=Pt.lf k' v':=⟨_,rfl⟩;have aC:pp.put k v (f+1) d=if E8 k d then (Pt.put k v f (d+1) (if E8 k' d then .lf k' v' else .e)).map (.nd (if E8 k' d then .e else .lf k' v')) else (Pt.put k v f (d+1) (if E8 k' d then .e else .lf k' v')).map (fun x=>.nd x (if E8 k' d then .lf k' v' else .e)):=by rw[aX];simp only[Pt.put,if_neg e]
   have aE:pp.val=.iface 237 (A8 (pb (k',v'))):=by rw[aX];rfl
   rw[←aX,aE];have aI:=Lib.hid aC;clear aC aE aX;go_enter Tryz.func156,Tryz.ntmps156;go_wp2_with fail;rw[←aK,←z3,←aH,z3,←bM];clear rk rp cI rq d0 f0 bT bM aH aK L1 K1 V1 A1 B1 bS B0 K0 V0 A0 z3 e cL;refine (Ec k' d bC hd W2).mono ?_;rintro e W3 ⟨rfl,h3⟩;have L3:=L2.below h3 L2.lt;have A3:=A2.below h3 A2.lt;have K3:=K2.below h3 K2.lt;have V3:=V2.below h3 V2.lt;have B3:=C0 B2 h3 B2.size;clear h3 L2 A2 K2 V2 B2;have aE:(Pt.lf k' v').val=.iface 237 (A8 (pb (k',v'))):=rfl;have aJ:=ok.2.2;obtain⟨gA,bP⟩:∃x,x=w.heap.size+1+1:=⟨_,rfl⟩;rw[←bP]at L3 A3 ⊢;have cK:w.heap.size+1<gA:=by omega
   clear bP;cases hb':E8 k' d
   ·have bN:(Pt.lf k' v').Ok (d+1) (Fy P d false):=⟨bC,bL,U3 aJ hb'⟩;have bO:Pt.e.Ok (d+1) (Fy P d true):=trivial;have aC:pp.put k v (f+1) d=if E8 k d then (Pt.put k v f (d+1) .e).map (.nd (.lf k' v')) else (Pt.put k v f (d+1) (.lf k' v')).map (fun x=>.nd x .e):=by rw[aI.out,hb'];rfl
    have aF:=Lib.hid aC;have rk:C6 W3 ⟨w.heap.size,0,none⟩ 32=some (c8 k):=by have:=K3.rows;rwa [C3,hk]at this
    clear aI aC;go_wp2_with fail;clear rk;obtain⟨WT,aG⟩:∃x,x=W3:=⟨_,rfl⟩;have AT:Bk WT gA 244 [(Pt.lf k' v').val,Pt.e.val]:=by rw[aG];exact A3
    have KT:Bk WT w.heap.size 35 (c8 k):=by rw[aG];exact K3
    have VT:Bk WT (w.heap.size+1) 35 (c8 v):=by rw[aG];exact V3
    have BT:Below w.heap.size w WT:=by rw[aG];exact B3
    rw[←aG];clear aG A3 K3 V3 B3 L3;rw[←aE];clear aE aJ;refine (Ec k d hk hd WT).mono ?_;rintro e W5 ⟨rfl,h5⟩;have A5:=AT.below h5 AT.lt;have K5:=KT.below h5 KT.lt;have V5:=VT.below h5 VT.lt;have B5:=C0 BT h5 BT.size;have f0:=A5.frozen 0;have f1:=A5.frozen 1;clear h5 AT KT VT BT;cases hbit:E8 k d
    ·have aA:pp.put k v (f+1) d=(Pt.put k v f (d+1) (Pt.lf k' v')).map (fun x=>.nd x (Pt.e)):=by rw[aF.out,hbit];rfl
     have aB:=Lib.hid aA;clear aA;go_wp2_with fail;have S0:Below W5.heap.size W5 W5.drew:=(Below.refl _ _).drew;refine D9 (fun W=>Below W5.heap.size W5 W) (by kernel_rfl) ?_;refine C4 (A:=?bU) [0,1,2,3,4,5,6] (by kernel_rfl) (by kernel_rfl) rfl (by kernel_rfl) (by kernel_rfl) S0 (h:=fun W hW=>?aP) (hr:=?aQ);case aP=>
      have c0:W.cell? ⟨gA,0,none⟩=some (Pt.lf k' v').val:=(A5.below hW A5.lt).at_ rfl;have rk:C6 W ⟨w.heap.size,0,none⟩ 32=some (c8 k):=by have:=(K5.below hW K5.lt).rows;rwa [C3,hk]at this
      have rv:C6 W ⟨w.heap.size+1,0,none⟩ 32=some (c8 v):=by have:=(V5.below hW V5.lt).rows;rwa [C3,hv]at this
      simp only[pick,List.getElem?_cons_zero,List.getElem?_cons_succ];repeat (go_big_quiet_step (fail))
      refine wpQuiet_nil ?_;rfl
     case aQ=>
      refine C2 7 (by kernel_rfl) (by rfl) (by rfl) (fun Q' hQ'=>?_);dsimp only[D8];go_wp2_with fail;rw[show (d:Int)+1=((d+1:Nat):Int) from by omega];refine (ih (d+1) (Pt.lf k' v') (Fy P d false) _ (by omega) bN (U3 ha hbit)).mono ?_;rintro e W6 ⟨q,n,rfl,aD,h6⟩;have S6:=C0 S0 h6 S0.size;have A6:=A5.below S6 A5.lt;have B6:=C0 B5 S6 B5.size;have f0:=A6.frozen 0;have c0:=A6.at_ (i:=0) rfl;go_wp2_with fail;refine hQ' _ _ S6 ?_;clear hQ';refine C4 (A:=?bX) [8,9,10] (by kernel_rfl) (by kernel_rfl) rfl (by kernel_rfl) (by kernel_rfl) S6 (h:=fun W hW=>?aR) (hr:=?aS);case aR=>
       simp only[List.append_eq,List.nil_append,List.cons_append,pick,List.getElem?_cons_zero,List.getElem?_cons_succ];repeat (go_big_quiet_step (fail))
       refine wpQuiet_nil ?_;rfl
      case aS=>
       refine C2 11 (by kernel_rfl) (by rfl) (by rfl) (fun Q' hQ'=>?_);dsimp only[D8];go_wp2_with fail;refine hQ' _ _ S6 ?_;clear hQ';refine C2 12 (by kernel_rfl) (by rfl) (by rfl) (fun Q' hQ'=>?_);dsimp only[D8];go_wp2_with fail;refine hQ' _ _ S6 ?_;clear hQ';refine E5 (by kernel_rfl) ?_;have A7:Bk (W6.setCell ⟨gA,0,none⟩ q.val) gA 244 [q.val,(Pt.e).val]:=A6.set_ 0 q.val;have d0:=A7.at_ (i:=0) rfl;have d1:=A7.at_ (i:=1) rfl;clear A6 A7 S6;rcases q.form with hq | ⟨tq,xq,hq⟩;all_goals
        rw[hq]at d0 d1 ⊢;have Hq:=Lib.hid hq;clear hq;go_wp2_with fail;refine bodyPost_ret (E3 rfl (C9.tmp rfl) (C9.tmp rfl)) rfl ⟨.nd q (Pt.e),n,by simp only[Pt.val,Hq.out];rfl,?_,B6.setCell (p:=⟨gA,0,none⟩) (by simp;omega) _⟩;rw[aB.out];revert aD;cases Pt.put k v f (d+1) (Pt.lf k' v') with
        | none=>exact fun h=>h
        | some t=>rintro ⟨rfl,h⟩;exact ⟨rfl,h⟩
    ·have aA:pp.put k v (f+1) d=(Pt.put k v f (d+1) (Pt.e)).map (.nd (Pt.lf k' v')):=by rw[aF.out,hbit];rfl
     have aB:=Lib.hid aA;clear aA;go_wp2_with fail;have S0:Below W5.heap.size W5 W5.drew:=(Below.refl _ _).drew;refine D9 (fun W=>Below W5.heap.size W5 W) (by kernel_rfl) ?_;refine C4 (A:=?cD) [0,1,2,3,4,5,6] (by kernel_rfl) (by kernel_rfl) rfl (by kernel_rfl) (by kernel_rfl) S0 (h:=fun W hW=>?bD) (hr:=?bE);case bD=>
      have c0:W.cell? ⟨gA,1,none⟩=some (Pt.e).val:=(A5.below hW A5.lt).at_ rfl;have rk:C6 W ⟨w.heap.size,0,none⟩ 32=some (c8 k):=by have:=(K5.below hW K5.lt).rows;rwa [C3,hk]at this
      have rv:C6 W ⟨w.heap.size+1,0,none⟩ 32=some (c8 v):=by have:=(V5.below hW V5.lt).rows;rwa [C3,hv]at this
      simp only[pick,List.getElem?_cons_zero,List.getElem?_cons_succ];repeat (go_big_quiet_step (fail))
      refine wpQuiet_nil ?_;rfl
     case bE=>
      refine C2 7 (by kernel_rfl) (by rfl) (by rfl) (fun Q' hQ'=>?_);dsimp only[D8];go_wp2_with fail;rw[show (d:Int)+1=((d+1:Nat):Int) from by omega];refine (ih (d+1) (Pt.e) (Fy P d true) _ (by omega) bO (U3 ha hbit)).mono ?_;rintro e W6 ⟨q,n,rfl,aD,h6⟩;have S6:=C0 S0 h6 S0.size;have A6:=A5.below S6 A5.lt;have B6:=C0 B5 S6 B5.size;have f0:=A6.frozen 1;have c0:=A6.at_ (i:=1) rfl;go_wp2_with fail;refine hQ' _ _ S6 ?_;clear hQ';refine C4 (A:=?cE) [8,9,10] (by kernel_rfl) (by kernel_rfl) rfl (by kernel_rfl) (by kernel_rfl) S6 (h:=fun W hW=>?bF) (hr:=?bG);case bF=>
       simp only[List.append_eq,List.nil_append,List.cons_append,pick,List.getElem?_cons_zero,List.getElem?_cons_succ];repeat (go_big_quiet_step (fail))
       refine wpQuiet_nil ?_;rfl
      case bG=>
       refine C2 11 (by kernel_rfl) (by rfl) (by rfl) (fun Q' hQ'=>?_);dsimp only[D8];go_wp2_with fail;refine hQ' _ _ S6 ?_;clear hQ';refine C2 12 (by kernel_rfl) (by rfl) (by rfl) (fun Q' hQ'=>?_);dsimp only[D8];go_wp2_with fail;refine hQ' _ _ S6 ?_;clear hQ';refine E5 (by kernel_rfl) ?_;have A7:Bk (W6.setCell ⟨gA,1,none⟩ q.val) gA 244 [(Pt.lf k' v').val,q.val]:=A6.set_ 1 q.val;have d0:=A7.at_ (i:=0) rfl;have d1:=A7.at_ (i:=1) rfl;clear A6 A7 S6;rcases q.form with hq | ⟨tq,xq,hq⟩;all_goals
        rw[hq]at d0 d1 ⊢;have Hq:=Lib.hid hq;clear hq;go_wp2_with fail;refine bodyPost_ret (E3 rfl (C9.tmp rfl) (C9.tmp rfl)) rfl ⟨.nd (Pt.lf k' v') q,n,by simp only[Pt.val,Hq.out];rfl,?_,B6.setCell (p:=⟨gA,1,none⟩) (by simp;omega) _⟩;rw[aB.out];revert aD;cases Pt.put k v f (d+1) (Pt.e) with
        | none=>exact fun h=>h
        | some t=>rintro ⟨rfl,h⟩;exact ⟨rfl,h⟩
   ·have bN:Pt.e.Ok (d+1) (Fy P d false):=trivial;have bO:(Pt.lf k' v').Ok (d+1) (Fy P d true):=⟨bC,bL,U3 aJ hb'⟩;have aC:pp.put k v (f+1) d=if E8 k d then (Pt.put k v f (d+1) (.lf k' v')).map (.nd .e) else (Pt.put k v f (d+1) .e).map (fun x=>.nd x (.lf k' v')):=by rw[aI.out,hb'];rfl
    have aF:=Lib.hid aC;clear aI aC;go_wp2_with fail;have S0:Bk W3.drew (gA+1) 237 (c8 (pb (k',v'))):=L3.drew;have e0:=A3.at_ (i:=0) rfl;have e1:=A3.at_ (i:=1) rfl;have f0:=A3.frozen 0;have f1:=A3.frozen 1;have cO:=A3.lt;refine D9 (fun W=>Bk W (gA+1) 237 (c8 (pb (k',v')))) (by kernel_rfl) ?_;refine C4 (A:=?cP) [0,1,2] (by kernel_rfl) (by kernel_rfl) rfl (by kernel_rfl) (by kernel_rfl) S0 (h:=fun W hW=>?cM) (hr:=?cN);case cM=>
     have rp:=B3e hW ⟨bC,bL⟩;simp only[pick,List.getElem?_cons_zero,List.getElem?_cons_succ];repeat (go_big_quiet_step (fail))
     refine wpQuiet_nil ?_;rfl
    case cN=>
     refine C2 3 (by kernel_rfl) (by rfl) (by rfl) (fun Q' hQ'=>?_);dsimp only[D8];go_wp2_with fail;have L4:Bk (W3.drew.setCell ⟨gA,0,none⟩ .nilIface) (gA+1) 237 (c8 (pb (k',v'))):=L3.drew.far (by simp) _;have A4:Bk (W3.drew.setCell ⟨gA,0,none⟩ .nilIface) gA 244 [.nilIface,.nilIface]:=A3.drew.set_ 0 .nilIface;refine hQ' _ _ L4 ?_;clear hQ';obtain⟨W4,bY⟩:∃x,x=W3.drew.setCell ⟨gA,0,none⟩ .nilIface:=⟨_,rfl⟩;change O9 _ _ _ _ _ _ (W3.drew.setCell ⟨gA,0,none⟩ .nilIface);have K4:Bk W4 w.heap.size 35 (c8 k):=by rw[bY];exact K3.drew.far (by simp;omega) _
     have V4:Bk W4 (w.heap.size+1) 35 (c8 v):=by rw[bY];exact V3.drew.far (by simp;omega) _
     have B4:Below w.heap.size w W4:=by rw[bY];exact B3.drew.setCell (p:=⟨gA,0,none⟩) (by simp;omega) _
     rw[←bY]at L4 A4 ⊢;clear bY L3 A3 K3 V3 B3 S0 e0 e1 f0 f1;refine C2 4 (by kernel_rfl) (by rfl) (by rfl) (fun Q' hQ'=>?_);dsimp only[D8];go_wp2_with fail;refine hQ' _ _ L4 ?_;clear hQ';have e1:=A4.at_ (i:=1) rfl;have f1:=A4.frozen 1;refine C2 5 (by kernel_rfl) (by rfl) (by rfl) (fun Q' hQ'=>?_);dsimp only[D8];go_wp2_with fail;refine hQ' _ _ (L4.far (by simp) _) ?_;clear hQ';obtain⟨WT,aG⟩:∃x,x=W4.setCell ⟨gA,1,none⟩ (.iface 237 (A8 (pb (k',v')))):=⟨_,rfl⟩;have AT:Bk WT gA 244 [Pt.e.val,(Pt.lf k' v').val]:=by rw[aG];exact A4.set_ 1 _
     have KT:Bk WT w.heap.size 35 (c8 k):=by rw[aG];exact K4.far (by simp;omega) _
     have VT:Bk WT (w.heap.size+1) 35 (c8 v):=by rw[aG];exact V4.far (by simp;omega) _
     have BT:Below w.heap.size w WT:=by rw[aG];exact B4.setCell (p:=⟨gA,1,none⟩) (by simp;omega) _
     rw[←aG];clear aG L4 A4 K4 V4 B4 e1 f1;refine E5 (by kernel_rfl) ?_;have rk:C6 WT ⟨w.heap.size,0,none⟩ 32=some (c8 k):=by have:=KT.rows;rwa [C3,hk]at this
     go_wp2_with fail;clear rk;rw[←aE];clear aE aJ;refine (Ec k d hk hd WT).mono ?_;rintro e W5 ⟨rfl,h5⟩;have A5:=AT.below h5 AT.lt;have K5:=KT.below h5 KT.lt;have V5:=VT.below h5 VT.lt;have B5:=C0 BT h5 BT.size;have f0:=A5.frozen 0;have f1:=A5.frozen 1;clear h5 AT KT VT BT;cases hbit:E8 k d
     ·have aA:pp.put k v (f+1) d=(Pt.put k v f (d+1) (Pt.e)).map (fun x=>.nd x (Pt.lf k' v')):=by rw[aF.out,hbit];rfl
      have aB:=Lib.hid aA;clear aA;go_wp2_with fail;have S0:Below W5.heap.size W5 W5.drew:=(Below.refl _ _).drew;refine D9 (fun W=>Below W5.heap.size W5 W) (by kernel_rfl) ?_;refine C4 (A:=?bZ) [0,1,2,3,4,5,6] (by kernel_rfl) (by kernel_rfl) rfl (by kernel_rfl) (by kernel_rfl) S0 (h:=fun W hW=>?aT) (hr:=?aU);case aT=>
       have c0:W.cell? ⟨gA,0,none⟩=some (Pt.e).val:=(A5.below hW A5.lt).at_ rfl;have rk:C6 W ⟨w.heap.size,0,none⟩ 32=some (c8 k):=by have:=(K5.below hW K5.lt).rows;rwa [C3,hk]at this
       have rv:C6 W ⟨w.heap.size+1,0,none⟩ 32=some (c8 v):=by have:=(V5.below hW V5.lt).rows;rwa [C3,hv]at this
       simp only[pick,List.getElem?_cons_zero,List.getElem?_cons_succ];repeat (go_big_quiet_step (fail))
       refine wpQuiet_nil ?_;rfl
      case aU=>
       refine C2 7 (by kernel_rfl) (by rfl) (by rfl) (fun Q' hQ'=>?_);dsimp only[D8];go_wp2_with fail;rw[show (d:Int)+1=((d+1:Nat):Int) from by omega];refine (ih (d+1) (Pt.e) (Fy P d false) _ (by omega) bN (U3 ha hbit)).mono ?_;rintro e W6 ⟨q,n,rfl,aD,h6⟩;have S6:=C0 S0 h6 S0.size;have A6:=A5.below S6 A5.lt;have B6:=C0 B5 S6 B5.size;have f0:=A6.frozen 0;have c0:=A6.at_ (i:=0) rfl;go_wp2_with fail;refine hQ' _ _ S6 ?_;clear hQ';refine C4 (A:=?cA) [8,9,10] (by kernel_rfl) (by kernel_rfl) rfl (by kernel_rfl) (by kernel_rfl) S6 (h:=fun W hW=>?aV) (hr:=?aW);case aV=>
        simp only[List.append_eq,List.nil_append,List.cons_append,pick,List.getElem?_cons_zero,List.getElem?_cons_succ];repeat (go_big_quiet_step (fail))
        refine wpQuiet_nil ?_;rfl
       case aW=>
        refine C2 11 (by kernel_rfl) (by rfl) (by rfl) (fun Q' hQ'=>?_);dsimp only[D8];go_wp2_with fail;refine hQ' _ _ S6 ?_;clear hQ';refine C2 12 (by kernel_rfl) (by rfl) (by rfl) (fun Q' hQ'=>?_);dsimp only[D8];go_wp2_with fail;refine hQ' _ _ S6 ?_;clear hQ';refine E5 (by kernel_rfl) ?_;have A7:Bk (W6.setCell ⟨gA,0,none⟩ q.val) gA 244 [q.val,(Pt.lf k' v').val]:=A6.set_ 0 q.val;have d0:=A7.at_ (i:=0) rfl;have d1:=A7.at_ (i:=1) rfl;clear A6 A7 S6;rcases q.form with hq | ⟨tq,xq,hq⟩;all_goals
         rw[hq]at d0 d1 ⊢;have Hq:=Lib.hid hq;clear hq;go_wp2_with fail;refine bodyPost_ret (E3 rfl (C9.tmp rfl) (C9.tmp rfl)) rfl ⟨.nd q (Pt.lf k' v'),n,by simp only[Pt.val,Hq.out];rfl,?_,B6.setCell (p:=⟨gA,0,none⟩) (by simp;omega) _⟩;rw[aB.out];revert aD;cases Pt.put k v f (d+1) (Pt.e) with
         | none=>exact fun h=>h
         | some t=>rintro ⟨rfl,h⟩;exact ⟨rfl,h⟩
     ·have aA:pp.put k v (f+1) d=(Pt.put k v f (d+1) (Pt.lf k' v')).map (.nd (Pt.e)):=by rw[aF.out,hbit];rfl
      have aB:=Lib.hid aA;clear aA;go_wp2_with fail;have S0:Below W5.heap.size W5 W5.drew:=(Below.refl _ _).drew;refine D9 (fun W=>Below W5.heap.size W5 W) (by kernel_rfl) ?_;refine C4 (A:=?cF) [0,1,2,3,4,5,6] (by kernel_rfl) (by kernel_rfl) rfl (by kernel_rfl) (by kernel_rfl) S0 (h:=fun W hW=>?bH) (hr:=?bI);case bH=>
       have c0:W.cell? ⟨gA,1,none⟩=some (Pt.lf k' v').val:=(A5.below hW A5.lt).at_ rfl;have rk:C6 W ⟨w.heap.size,0,none⟩ 32=some (c8 k):=by have:=(K5.below hW K5.lt).rows;rwa [C3,hk]at this
       have rv:C6 W ⟨w.heap.size+1,0,none⟩ 32=some (c8 v):=by have:=(V5.below hW V5.lt).rows;rwa [C3,hv]at this
       simp only[pick,List.getElem?_cons_zero,List.getElem?_cons_succ];repeat (go_big_quiet_step (fail))
       refine wpQuiet_nil ?_;rfl
      case bI=>
       refine C2 7 (by kernel_rfl) (by rfl) (by rfl) (fun Q' hQ'=>?_);dsimp only[D8];go_wp2_with fail;rw[show (d:Int)+1=((d+1:Nat):Int) from by omega];refine (ih (d+1) (Pt.lf k' v') (Fy P d true) _ (by omega) bO (U3 ha hbit)).mono ?_;rintro e W6 ⟨q,n,rfl,aD,h6⟩;have S6:=C0 S0 h6 S0.size;have A6:=A5.below S6 A5.lt;have B6:=C0 B5 S6 B5.size;have f0:=A6.frozen 1;have c0:=A6.at_ (i:=1) rfl;go_wp2_with fail;refine hQ' _ _ S6 ?_;clear hQ';refine C4 (A:=?cG) [8,9,10] (by kernel_rfl) (by kernel_rfl) rfl (by kernel_rfl) (by kernel_rfl) S6 (h:=fun W hW=>?bJ) (hr:=?bK);case bJ=>
        simp only[List.append_eq,List.nil_append,List.cons_append,pick,List.getElem?_cons_zero,List.getElem?_cons_succ];repeat (go_big_quiet_step (fail))
        refine wpQuiet_nil ?_;rfl
       case bK=>
        refine C2 11 (by kernel_rfl) (by rfl) (by rfl) (fun Q' hQ'=>?_);dsimp only[D8];go_wp2_with fail;refine hQ' _ _ S6 ?_;clear hQ';refine C2 12 (by kernel_rfl) (by rfl) (by rfl) (fun Q' hQ'=>?_);dsimp only[D8];go_wp2_with fail;refine hQ' _ _ S6 ?_;clear hQ';refine E5 (by kernel_rfl) ?_;have A7:Bk (W6.setCell ⟨gA,1,none⟩ q.val) gA 244 [(Pt.e).val,q.val]:=A6.set_ 1 q.val;have d0:=A7.at_ (i:=0) rfl;have d1:=A7.at_ (i:=1) rfl;clear A6 A7 S6;rcases q.form with hq | ⟨tq,xq,hq⟩;all_goals
         rw[hq]at d0 d1 ⊢;have Hq:=Lib.hid hq;clear hq;go_wp2_with fail;refine bodyPost_ret (E3 rfl (C9.tmp rfl) (C9.tmp rfl)) rfl ⟨.nd (Pt.e) q,n,by simp only[Pt.val,Hq.out];rfl,?_,B6.setCell (p:=⟨gA,1,none⟩) (by simp;omega) _⟩;rw[aB.out];revert aD;cases Pt.put k v f (d+1) (Pt.lf k' v') with
         | none=>exact fun h=>h
         | some t=>rintro ⟨rfl,h⟩;exact ⟨rfl,h⟩
end
end Go.Proofs.YtdfpoofbgjilgaaGreat
