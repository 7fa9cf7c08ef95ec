/- A part of the proof of ClientForks. -/
import Derived.Test.YtdfpoofbgjilgaaGreatVbd
set_option linter.unusedVariables false
set_option linter.unusedSimpArgs false
set_option maxRecDepth 100000
set_option maxHeartbeats 40000000
namespace Go.Proofs.YtdfpoofbgjilgaaGreat
open Go Go.RowKit Sh
section
@[go_sem ↓ high] theorem F3l (k : IntKind) (r : Nat) (hr : r < 8) : Op.shift .shr .u8 128 k (r : Int) = pure (.int .u8 (n8 (128 >>> UInt8.ofNat r))) := Ty 128 k r hr
theorem A2a (g:Nat) (l:List UInt8) (w:World) (bad:Int) (h:Jy w g l bad) :
 Calls Tryz.prog 192 #[.pointer (some ⟨g,0,none⟩)] w fun e w'=>∃x l' bad',e=.returned (A8 x)∧x.length=32∧Jy w' g l' bad'∧w.grownBy w' (some g)∧
  ((bad=0∧32≤l.length∧x=l.take 32∧l'=l.drop 32∧bad'=0)∨(bad=0∧l.length<32∧bad'=10)∨(bad≠0∧bad'=bad)):=by
 by_cases hb:bad=0
 ·subst hb;by_cases hl:32≤l.length
  ·exact (D4r g l w hl h).mono fun e w' ⟨h1,h2,h3⟩=>⟨_,_,_,h1,by simp;omega,h2,h3,.inl ⟨rfl,hl,rfl,rfl,rfl⟩⟩
  ·exact (A4o g l w 0 10 (.inr ⟨rfl,by omega,rfl⟩) h).mono fun e w' ⟨h1,h2,h3⟩=>⟨_,_,_,h1,by simp,h2,h3,.inr (.inl ⟨rfl,by omega,rfl⟩)⟩
 ·exact (A4o g l w bad bad (.inl ⟨hb,rfl⟩) h).mono fun e w' ⟨h1,h2,h3⟩=>⟨_,_,_,h1,by simp,h2,h3,.inr (.inr ⟨hb,rfl⟩)⟩
theorem Jy.cells {w:World} {g:Nat} {l:List UInt8} {bad:Int} (h:Jy w g l bad):w.cell? ⟨g,1,none⟩=some (.int .i64 bad):=let ⟨_,h1,_⟩:=h;h1.at_ rfl
theorem C7s (g:Nat) (l:List UInt8) (w:World) (bad:Int) (hb:bad≠0) (path:List UInt8) (hp:path.length=32) (d:Nat) (h:Jy w g l bad) :
 Calls Tryz.prog 154 #[.pointer (some ⟨g,0,none⟩),A8 path,.int .i64 (d:Int)] w fun e w'=>e=.returned Pt.e.val∧Jy w' g l bad∧w.grownBy w' (some g):=by
 obtain⟨W0,aA⟩:∃x,x=w.alloc (Obj.cells (c8 path).toArray 35):=⟨_,rfl⟩;have B0:Below w.heap.size w W0:=by rw[aA];exact (Below.refl _ _).alloc (Nat.le_refl _) _
 have r0:=h.below B0 h.lt;have aC:(bad==0)=false:=beq_eq_false_iff_ne.2 hb;have c1:=r0.cells;go_enter Tryz.func154,Tryz.ntmps154;go_wp2_with fail;rw[←aA];refine (B0s g l W0 bad hb 1 r0).mono ?_;rintro e w1 ⟨rfl,rfl⟩;clear aA;have aB:(bad != 0)=true:=by simp[hb]
 go_wp2_with fail;go_ret;exact ⟨rfl,r0,Q0 B0 g⟩
def Uk (g:Nat) (r:Except Nat (Pt×List UInt8)) (e:Ending) (w':World):Prop:=match r with
 | .ok x=>e=.returned x.1.val∧Jy w' g x.2 0
 | .error n=>∃(q:Pt) (l':List UInt8),e=.returned q.val∧Jy w' g l' (n:Int)∧q.Wf
theorem Iz {g f:Nat} {way:List Bool} {l:List UInt8} {e:Ending} {w':World} (hf:f+way.length=256) (h:Uk g (rd f way l) e w'):∃(q:Pt) (l':List UInt8) (bad:Int),e=.returned q.val∧q.Wf∧Jy w' g l' bad∧((bad=0∧rd f way l=.ok (q,l'))∨(bad≠0∧∃n:Nat,rd f way l=.error n∧bad=(n:Int))):=by
 cases hr:rd f way l with
 | ok x=>
  rw[hr]at h;exact ⟨x.1,x.2,0,h.1,(D0j f way l x.1 x.2 hf hr).2.1.wf,h.2,.inl ⟨rfl,rfl⟩⟩
 | error n=>
  rw[hr]at h;obtain⟨q,l',h1,h2,h3⟩:=h;exact ⟨q,l',n,h1,h3,h2,.inr ⟨by rcases D1f hr with rfl | rfl<;>decide,n,rfl,rfl⟩⟩
def Qf (way:List Bool) (key:List UInt8) (n:Nat):Bool:=(List.range n).all fun i=>I6 key i==Kq way i
theorem C2y (way:List Bool) (key:List UInt8):Qf way key way.length=chk way key:=rfl
theorem B5f (way:List Bool) (key:List UInt8) (n:Nat):Qf way key (n+1)=(Qf way key n&&(I6 key n==Kq way n)):=by simp[Qf,List.range_succ]
def A7j (bad0:Int) (b:Bool):Int:=if bad0==0 && !b then 13 else bad0
theorem C0z {way:List Bool} {kk path:List UInt8} {i:Nat} {bad:Int} (h:I6 path i=Kq way i):A3d (!(I6 kk i==I6 path i)) (A7j bad (Qf way kk i))=A7j bad (Qf way kk (i+1)):=by
 rw[B5f,←h];unfold A3d A7j;by_cases hb:bad=0
 ·subst hb;cases Qf way kk i<;>cases (I6 kk i==I6 path i)<;>rfl
 ·have:(bad==0)=false:=beq_eq_false_iff_ne.2 hb;simp[this]
def A7h (k:List UInt8) (n:Nat):List UInt8:=k.set (n / 8) (g8 k (n / 8) ||| (128 >>> UInt8.ofNat (n % 8)))
theorem Xi (k:List UInt8) (n:Nat):(A7h k n).length=k.length:=by simp[A7h]
theorem C1l (k:List UInt8) (n i:Nat) (hk:k.length=32) (hn:n<256) (hi:i<256):I6 (A7h k n) i=(I6 k i||decide (i=n)):=by
 rw[Jj,Jj];unfold A7h g8;by_cases h:i / 8=n / 8
 ·rw[h];have hl:n / 8<k.length:=by omega
  simp only[List.getD_eq_getElem?_getD,List.getElem?_set_self hl,Option.getD_some,List.getElem?_eq_getElem hl];rw[UInt8.toNat_or,UInt8.toNat_shiftRight,UInt8.toNat_ofNat',Nat.testBit_or];have e:n % 8 % 2 ^ 8 % 8=n % 8:=by omega
  rw[e];have e2:((128:UInt8).toNat >>> (n % 8)).testBit (7-i % 8)=decide (i=n):=by
   have aB:i % 8<8:=by omega
   have aC:n % 8<8:=by omega
   have:(i=n)↔i % 8=n % 8:=by omega
   simp only[this];show ((128:Nat) >>> (n % 8)).testBit (7-i % 8)=_;generalize i % 8=a at *;generalize n % 8=b at *;have ha:a=0∨a=1∨a=2∨a=3∨a=4∨a=5∨a=6∨a=7:=by omega
   have hb:b=0∨b=1∨b=2∨b=3∨b=4∨b=5∨b=6∨b=7:=by omega
   rcases ha with rfl | rfl | rfl | rfl | rfl | rfl | rfl | rfl<;>rcases hb with rfl | rfl | rfl | rfl | rfl | rfl | rfl | rfl<;>rfl
  rw[e2]
 ·have aA:i≠n:=by intro e;exact h (by rw[e])
  simp only[List.getD_eq_getElem?_getD,List.getElem?_set_ne (Ne.symm h)];simp[aA]
theorem C5q {way:List Bool} {path:List UInt8} (h:∀i,i<256→I6 path i=Kq way i):∀i,i<256→I6 path i=Kq (way++[false]) i:=by
 intro i hi;rw[h i hi];unfold Kq;simp only[List.getD_eq_getElem?_getD,List.getElem?_append];split
 ·rfl
 ·rename_i hl
  rw[List.getElem?_eq_none (by omega)];cases hz:i-way.length with
  | zero=>rfl
  | succ n=>rfl
theorem C4x {way:List Bool} {path:List UInt8} (hp:path.length=32) (hd:way.length<256) (h:∀i,i<256→I6 path i=Kq way i):∀i,i<256→I6 (A7h path way.length) i=Kq (way++[true]) i:=by
 intro i hi;rw[C1l _ _ _ hp hd hi,h i hi];unfold Kq;simp only[List.getD_eq_getElem?_getD,List.getElem?_append];split
 ·rename_i hl;simp[show i≠way.length by omega]
 ·rename_i hl
  rw[List.getElem?_eq_none (by omega)];by_cases e:i=way.length
  ·subst e;simp
  ·obtain⟨m,hm⟩:∃m,i-way.length=m+1:=⟨i-way.length-1,by omega⟩;rw[hm];simp[e]
def Pt.leafB:Pt→List UInt8 | .lf k v=>pb (k,v) | _=>z8 64
@[go_sem] theorem E3k : ∀ (p : Pt) (w : World), (Instr.build 244 #[(0, p.val)]).run Tryz.prog w = .ok (.agg #[p.val, .nilIface]) w
 | .e,w=>by kernel_rfl
 | .lf _ _,w=>by kernel_rfl
 | .nd _ _,w=>by kernel_rfl
 | .hd _,w=>by kernel_rfl
theorem Pt.form3:∀p:Pt,(p.val=.nilIface∧p.isE=true∧p.isLf=false)∨(∃t x,p.val=.iface t x∧p.isE=false∧p.isLf=true)∨(∃t x,p.val=.iface t x∧p.isE=false∧p.isLf=false)
 | .e=>.inl ⟨rfl,rfl,rfl⟩
 | .lf _ _=>.inr (.inl ⟨_,_,rfl,rfl,rfl⟩)
 | .nd _ _=>.inr (.inr ⟨_,_,rfl,rfl,rfl⟩)
 | .hd _=>.inr (.inr ⟨_,_,rfl,rfl,rfl⟩)
theorem P9 (W:World) (t:TypeId) (l:List UInt8) (n N:Nat) (hl:l.length=n) (hN:W.heap.size=N):E7 (W.alloc (Obj.cells (c8 l).toArray t)) ⟨N,0,none⟩ n=true:=by
 subst hl hN;exact (Bk.new W t (c8 l)).can (by simp)
theorem Z6 {w a b:World} {g:Nat} (h:w.grownBy a (some g)) (hb:Below w.heap.size a b):w.grownBy b (some g):=
 ⟨hb.os.trans h.os,hb.tape.trans h.tape,hb.output.trans h.output,Nat.le_trans h.size hb.size,fun k hk hne=>(hb.block k hk).trans (h.block k hk hne)⟩
def NdV (ql qr:Pt) (v:Value):Prop:=v=(Pt.nd ql qr).val
def D9q (ql qr:Pt) (c:Bool):Prop:=ill ql qr=c
theorem Dw {g f:Nat} {way:List Bool} {b l2 l3:List UInt8} {ql qr:Pt} {bad2 bad3:Int} {w:World} {c:Bool} {v:Value} (hv:NdV ql qr v) (hl:ql.Wf) (hr:qr.Wf) (hc:D9q ql qr c) (r:Jy w g l3 (A3d c bad3))
 (h2:(bad2=0∧rd f (way++[false]) b=.ok (ql,l2))∨(bad2≠0∧∃n:Nat,rd f (way++[false]) b=.error n∧bad2=(n:Int)))
 (h3:(bad2=0∧bad3=0∧rd f (way++[true]) l2=.ok (qr,l3))∨(bad2=0∧bad3≠0∧∃n:Nat,rd f (way++[true]) l2=.error n∧bad3=(n:Int))∨(bad2≠0∧bad3=bad2)) :
 Uk g (rd (f+1) way (2::b)) (.returned v) w:=by
 unfold NdV at hv;subst hv;unfold D9q at hc;have aA:rd (f+1) way (2::b)=match rd f (way++[false]) b with
  | .error e=>.error e
  | .ok (l,b1)=>match rd f (way++[true]) b1 with
   | .error e=>.error e
   | .ok (r,b2)=>if ill l r then .error 13 else .ok (.nd l r,b2):=rfl
 rw[aA];have nz:∀ {c:Bool} {x:Int},x≠0→A3d c x=x:=fun {c x} h=>by
  have:(x==0)=false:=beq_eq_false_iff_ne.2 h;simp[A3d,this]
 rcases h2 with ⟨e2,h2⟩ | ⟨e2,n,h2,hn⟩
 ·rw[h2];rcases h3 with ⟨_,e3,h3⟩ | ⟨_,e3,n,h3,hn⟩ | ⟨h,_⟩
  ·simp only[h3,hc];subst e3;cases c with
   | true=>exact ⟨_,_,rfl,r,hl,hr⟩
   | false=>exact ⟨rfl,r⟩
  ·simp only[h3];rw[nz e3,hn]at r;exact ⟨_,_,rfl,r,hl,hr⟩
  ·exact absurd e2 h
 ·rw[h2];rcases h3 with ⟨h,_⟩ | ⟨h,_⟩ | ⟨_,h⟩
  ·exact absurd h e2
  ·exact absurd h e2
  ·subst h;rw[nz e2,hn]at r;exact ⟨_,_,rfl,r,hl,hr⟩
theorem Uj:∀ {p:Pt},p.Wf→p.leafB.length=64
 | .e,_=>by simp[Pt.leafB]
 | .lf _ _,h=>Kw.len h
 | .nd _ _,_=>by simp[Pt.leafB]
 | .hd _,_=>by simp[Pt.leafB]
@[go_sem] theorem A0y : ∀ (p : Pt) (w : World), (Instr.typeAssert p.val 120 237 true).run Tryz.prog w = .ok (.tuple #[A8 p.leafB, .bool p.isLf]) w
 | .e,w=>B2c w
 | .lf _ _,w=>A6q _ w
 | .nd _ _,w=>A3b _ w
 | .hd _,w=>Zk _ w
section
variable (g f : Nat) (way : List Bool) (path : List UInt8) (hp : path.length = 32) (hw : ∀ i, i < 256 → I6 path i = Kq way i) (hf : f + way.length = 256)
include hp hw hf
theorem A3y (IH:∀f',f=f'+1→∀(way:List Bool) (path:List UInt8),path.length=32→(∀i,i<256→I6 path i=Kq way i)→f'+way.length=256→∀(l:List UInt8) (w:World),Jy w g l 0→
 Calls Tryz.prog 154 #[.pointer (some ⟨g,0,none⟩),A8 path,.int .i64 (way.length:Int)] w fun e w'=>w.grownBy w' (some g)∧Uk g (rd f' way l) e w')
 (l:List UInt8) (w:World) (h:Jy w g l 0) :
 Calls Tryz.prog 154 #[.pointer (some ⟨g,0,none⟩),A8 path,.int .i64 (way.length:Int)] w fun e w'=>w.grownBy w' (some g)∧Uk g (rd f way l) e w':=by
 obtain⟨W0,aW⟩:∃x,x=w.alloc (Obj.cells (c8 path).toArray 35):=⟨_,rfl⟩;have B0:Below w.heap.size w W0:=by rw[aW];exact (Below.refl _ _).alloc (Nat.le_refl _) _
 have K0:Bk W0 w.heap.size 35 (c8 path):=by rw[aW];exact Bk.new w _ _
 have zg:=h.lt;have r0:=h.below B0 zg;have G0:w.grownBy W0 (some g):=Q0 B0 g;cases l with
 | nil=>
  have aF:rd f way []=.error 10:=by cases f<;>rfl
  rw[aF];go_enter Tryz.func154,Tryz.ntmps154;go_wp2_with fail;rw[←aW];refine (Yw g [] W0 1 (by simp) (by omega) r0).mono ?_;rintro e w1 ⟨rfl,r1,g1⟩;have c1:=r1.cells;go_wp2_with fail;go_ret;exact ⟨G0.trans g1,.e,[],rfl,r1,trivial⟩
 | cons k b=>
  go_enter Tryz.func154,Tryz.ntmps154;go_wp2_with fail;rw[←aW];clear aW;refine (B8x g (k::b) W0 1 (by simp) r0).mono ?_;simp only[List.take_succ_cons,List.take_zero,List.drop_succ_cons,List.drop_zero];rintro e w1 ⟨u,rfl,hu,r1,g1⟩;have c1:=r1.cells;obtain⟨gu,ou,cu,rfl,bP,bQ,_,cA,aU⟩:=hu.row (by simp);have bM:w1.cell? ⟨gu,ou,none⟩=some (.int .u8 (n8 k)):=by have h0:=(Kd aU).2 0 (v8 k) rfl;rw[Q3]at h0;exact h0
  have K1:=K0.grown (w':=w1) (row:=some g) g1 (fun e=>by injection e with e;omega);have G1:=G0.trans g1;clear hu aU bP B0 K0 r0 G0 g1 h;have q0:(n8 k==0)=(k==0):=Vc (x:=k) (y:=0);have q1:(n8 k==1)=(k==1):=Vc (x:=k) (y:=1);have q2:(n8 k==2)=(k==2):=Vc (x:=k) (y:=2);have q3:(n8 k==3)=(k==3):=Vc (x:=k) (y:=3);dsimp only[List.length_cons,List.length_nil];by_cases e0:k=0
  ·
   subst e0;rw[show ((0:UInt8)==0)=true from rfl]at q0;have aF:rd f way (0::b)=.ok (.e,b):=by cases f<;>rfl
   go_wp2_with fail;go_ret;rw[aF];exact ⟨G1,rfl,r1⟩
  by_cases e1:k=1
  ·
   subst e1;rw[show ((1:UInt8)==0)=false from rfl]at q0;rw[show ((1:UInt8)==1)=true from rfl]at q1;have aF:rd f way (1::b)=if b.length<64 then .error 10 else if chk way (b.take 32) then .ok (.lf (b.take 32) ((b.drop 32).take 32),b.drop 64) else .error 13:=by cases f<;>rfl
   have HR:=Lib.hid aF;clear aF;go_wp2_with fail;refine (A2a g b w1 0 r1).mono ?_;rintro e w2 ⟨kk,l2,aG,rfl,aX,r2,g2,aY⟩;have K2:=K1.grown (w':=w2) (row:=some g) g2 (fun e=>by injection e with e;omega);have G2:=G1.trans g2;have aN:=Lib.hid aY;clear aY r1 c1 bM K1 G1 g2;go_wp2_with fail;refine (A2a g l2 w2 aG r2).mono ?_;rintro e w3 ⟨vv,l3,aA,rfl,aP,r3,g3,aV⟩;have K3:=K2.grown (w':=w3) (row:=some g) g3 (fun e=>by injection e with e;omega);have G3:=G2.trans g3;have HB:Hid ((aA=0∧64≤b.length∧kk=b.take 32∧vv=(b.drop 32).take 32∧l3=b.drop 64)∨(aA=10∧b.length<64)):=Lib.hid (by
    rcases aN.out with ⟨_,h1,h2,h3,h4⟩ | ⟨_,h1,h2⟩ | ⟨h1,_⟩
    ·subst h3 h4;rcases aV with ⟨_,h5,h6,h7,h8⟩ | ⟨_,h5,h6⟩ | ⟨h5,_⟩
     ·exact .inl ⟨h8,by simp at h5;omega,h2,h6,by rw[h7,List.drop_drop]⟩
     ·exact .inr ⟨h6,by simp at h5;omega⟩
     ·exact absurd rfl h5
    ·subst h2;rcases aV with ⟨h5,_⟩ | ⟨h5,_⟩ | ⟨_,h6⟩
     ·cases h5
     ·cases h5
     ·exact .inr ⟨h6,by omega⟩
    ·exact absurd rfl h1)
   clear aV aN r2 K2 G2 g3;have aZ:(pb (kk,vv)).length=64:=Kw.len ⟨aX,aP⟩;obtain⟨W4,bF⟩:∃x,x=C4 (w3.alloc (Obj.cells (c8 (z8 64)).toArray 237)) ⟨w3.heap.size,0,none⟩ (c8 (pb (kk,vv))):=⟨_,rfl⟩;have L4:Bk W4 w3.heap.size 237 (c8 (pb (kk,vv))):=by rw[bF];exact Bk.fresh w3 _ (by simp[aZ])
   have B4:Below w3.heap.size w3 W4:=by rw[bF];exact C0 ((Below.refl _ _).alloc (Nat.le_refl _) _) (Nat.le_refl _) _
   have bI:=r3.lt;have K4:=K3.below B4 K3.lt;have r4:=r3.below B4 bI;have G4:=G3.trans (Q0 B4 g);have zz:w.heap.size<w3.heap.size:=K3.lt;clear K3 G3 r3;go_wp2_with fail;rw[←bF];clear bF;go_loopw [35] (fun t wr=>∃i:Nat,i≤way.length∧t=.int .i64 (i:Int)∧Bk wr w3.heap.size 237 (c8 (pb (kk,vv)))∧Bk wr w.heap.size 35 (c8 path)∧Jy wr g l3 (A7j aA (Qf way kk i))∧w.grownBy wr (some g)) (fun t _=>way.length-(intOf t).toNat)
   case atStart=>exact ⟨0,by omega,rfl,L4,K4,by simpa [A7j,Qf] using r4,G4⟩
   case round=>
    clear L4 K4 r4 G4 B4;obtain⟨i,hi,rfl,L5,K5,r5,G5⟩:=hrel;by_cases hlt:i<way.length
    ·go_wp2_with fail;have S0:Bk wr.drew w3.heap.size 237 (c8 (pb (kk,vv)))∧Bk wr.drew w.heap.size 35 (c8 path):=⟨L5.drew,K5.drew⟩;refine E3 (fun W=>Bk W w3.heap.size 237 (c8 (pb (kk,vv)))∧Bk W w.heap.size 35 (c8 path)) (by kernel_rfl) ?_;refine C5 (A:=?A1) [0,1,2,3,5,6] (by kernel_rfl) (by kernel_rfl) rfl (by kernel_rfl) (by kernel_rfl) S0 (h:=fun W hW=>?h1) (hr:=?r1);case h1=>
      have rk:D9 W ⟨w3.heap.size,0,none⟩ 32=some (c8 kk):=Mm hW.1 ⟨aX,aP⟩;have rp:D9 W ⟨w.heap.size,0,none⟩ 32=some (c8 path):=by have:=hW.2.rows;rwa [C6,hp]at this
      simp only[pick,List.getElem?_cons_zero,List.getElem?_cons_succ];repeat (go_big_quiet_step (fail))
      refine wpQuiet_nil ?_;rfl
     case r1=>
      refine C3 4 (by kernel_rfl) (by rfl) (by rfl) (fun Q' hQ'=>?_);dsimp only[E5];go_wp2_with fail;refine (Mi kk i aX (by omega) wr.drew).mono ?_;rintro e w5 ⟨rfl,bA⟩;have r6:Jy w5 g l3 (A7j aA (Qf way kk i)):=Jy.below (w:=wr.drew) r5 bA r5.lt;have S5:=And.intro (S0.1.below bA S0.1.lt) (S0.2.below bA S0.2.lt);have G6:w.grownBy w5 (some g):=G5.trans (World.grownBy.trans (b:=wr.drew) (Q0 (w:=wr) (Below.refl _ _).drew g) (Q0 bA g));go_wp2_with fail;refine hQ' _ _ S5 ?_;clear hQ';refine C3 7 (by kernel_rfl) (by rfl) (by rfl) (fun Q' hQ'=>?_);dsimp only[E5];go_wp2_with fail;refine (Mi path i hp (by omega) w5).mono ?_;rintro e w6 ⟨rfl,bB⟩;have r7:=r6.below bB r6.lt;have S6:=And.intro (S5.1.below bB S5.1.lt) (S5.2.below bB S5.2.lt);have G7:=G6.trans (Q0 bB g);go_wp2_with fail;refine hQ' _ _ S6 ?_;clear hQ';refine C5 (A:=?A2) [8] (by kernel_rfl) (by kernel_rfl) rfl (by kernel_rfl) (by kernel_rfl) S6 (h:=fun W hW=>?h2) (hr:=?r2);case h2=>
       simp only[List.append_eq,List.nil_append,List.cons_append,pick,List.getElem?_cons_zero,List.getElem?_cons_succ];repeat (go_big_quiet_step (fail))
       refine wpQuiet_nil ?_;rfl
      case r2=>
       refine C3 9 (by kernel_rfl) (by rfl) (by rfl) (fun Q' hQ'=>?_);dsimp only[E5];go_wp2_with fail;refine (Aj g l3 w6 _ (!(I6 kk i==I6 path i)) r7).mono ?_;rintro e w7 ⟨rfl,r8,bG⟩;rw[C0z (hw i (by omega))]at r8;have L8:=S6.1.grown (w':=w7) (row:=some g) bG (fun e=>by injection e with e;omega);have K8:=S6.2.grown (w':=w7) (row:=some g) bG (fun e=>by injection e with e;omega);have G8:=G7.trans bG;clear r5 r6 r7 L5 K5 G5 G6 G7 S0 S5 S6 bA bB bG;go_wp2_with fail;refine hQ' _ _ ⟨L8,K8⟩ ?_;clear hQ';refine F0 (by kernel_rfl) ?_;go_wp2_with fail;go_roundw;case rel=>exact ⟨i+1,by omega,by go_num,L8,K8,r8,G8⟩
       case measure=>simp[intOf];omega
    ·obtain rfl:i=way.length:=by omega
     rw[C2y]at r5;have rl:D9 wr ⟨w3.heap.size,0,none⟩ 64=some (c8 (pb (kk,vv))):=by have:=L5.rows;rwa [C6,aZ]at this
     go_wp2_with fail;go_ret;refine ⟨G5,?_⟩;rw[HR.out];rcases HB.out with ⟨h1,h2,rfl,rfl,rfl⟩ | ⟨h1,h2⟩
     ·rw[if_neg (by omega)];subst h1;cases hc:chk way (b.take 32) with
      | true=>rw[hc]at r5;exact ⟨rfl,by simpa [A7j] using r5⟩
      | false=>rw[hc]at r5;exact ⟨.lf _ _,_,rfl,by simpa [A7j] using r5,aX,aP⟩
     ·rw[if_pos h2];subst h1;exact ⟨.lf kk vv,l3,rfl,by simpa [A7j] using r5,aX,aP⟩
  by_cases e2:k=2
  ·
   subst e2;rw[show ((2:UInt8)==0)=false from rfl]at q0;rw[show ((2:UInt8)==1)=false from rfl]at q1;rw[show ((2:UInt8)==2)=true from rfl]at q2;cases f with
   | zero=>
    have bN:way.length=256:=by omega
    have bR:decide ((way.length:Int)≥256)=true:=decide_eq_true (by omega);go_wp2_with fail;refine (Aj g b w1 0 true r1).mono ?_;rintro e w2 ⟨rfl,r2,g2⟩;have c2:=r2.cells;dsimp only[A3d]at c2;go_wp2_with fail;go_ret;exact ⟨G1.trans g2,.e,b,rfl,r2,trivial⟩
   | succ f=>
    have bR:decide ((way.length:Int)≥256)=false:=decide_eq_false (by omega);have bC:f+(way++[false]).length=256:=by simp;omega
    have bD:f+(way++[true]).length=256:=by simp;omega
    have bJ:=IH f rfl (way++[false]) path hp (C5q hw) bC b;have bK:=IH f rfl (way++[true]) (A7h path way.length) (by rw[Xi,hp]) (C4x hp (by omega) hw) bD;have el:(((way++[false]).length:Nat):Int)=(way.length:Int)+1:=by simp
    have er:(((way++[true]).length:Nat):Int)=(way.length:Int)+1:=by simp
    rw[er]at bK;rw[el]at bJ;have bS:=Lib.hid bC;have bT:=Lib.hid bD;have HW:=Lib.hid hw;clear el er bC bD IH hw;have bO:(A7h path way.length).length=32:=by rw[Xi,hp]
    generalize hd:way.length=d at *;have bE:A7h path d=path.set (d / 8) (g8 path (d / 8) ||| (128 >>> UInt8.ofNat (d % 8))):=rfl;have bL:=Lib.hid bE;generalize hpe:A7h path d=path2 at *;clear bE hpe;have hq:(d:Int) / 8=((d / 8:Nat):Int):=by omega
    have hr:(d:Int) % 8=((d % 8:Nat):Int):=by omega
    have cB:d / 8<32:=by omega
    have cC:d % 8<8:=by omega
    generalize hqe:d / 8=q at *;generalize hre:d % 8=r at *;clear hqe hre;go_wp2_with fail;refine (Aj g b w1 0 false r1).mono ?_;rintro e w2 ⟨rfl,r2,g2⟩;have c2:=r2.cells;dsimp only[A3d]at r2 c2;have K2:=K1.grown (w':=w2) (row:=some g) g2 (fun e=>by injection e with e;omega);have G2:=G1.trans g2;have bU:D9 w2 ⟨w.heap.size,0,none⟩ 32=some (c8 path):=by have:=K2.rows;rwa [C6,hp]at this
    clear r1 c1 K1 G1 g2 bM;go_wp2_with fail;refine (bJ w2 r2).mono ?_;rintro e w3 ⟨g3,hN⟩;obtain⟨ql,l2,aG,rfl,aQ,r3,aY⟩:=Iz bS.out hN;have aN:=Lib.hid aY;have K3:=K2.grown (w':=w3) (row:=some g) g3 (fun e=>by injection e with e;omega);have G3:=G2.trans g3;clear hN aY r2 c2 K2 G2 g3 bU bJ;have bW:=K3.lt;have bI:=r3.lt;obtain⟨vv,aP⟩:∃x,x=Value.int .u8 (n8 (g8 path q ||| 128 >>> UInt8.ofNat r)):=⟨_,rfl⟩;have e0:=K3.at_ (Jo (l:=path) (i:=q) (by omega));have f0:=K3.frozen q;have K4:Bk (w3.setCell ⟨w.heap.size,q,none⟩ vv) w.heap.size 35 (c8 path2):=by
     have:=K3.set_ q vv;rw[aP,Kj,←bL.out,←aP]at this;exact this
    have z4:(w3.setCell ⟨w.heap.size,q,none⟩ vv).heap.size=w3.heap.size:=by simp
    have r4:Jy (w3.setCell ⟨w.heap.size,q,none⟩ vv) g l2 aG:=r3.below ((Below.refl w.heap.size _).setCell (Nat.le_refl _) _) zg;have G4:w.grownBy (w3.setCell ⟨w.heap.size,q,none⟩ vv) (some g):=
     ⟨G3.os,G3.tape,G3.output,by simpa using G3.size,fun k hk hne=>(Below.heap_setCell _ ⟨w.heap.size,q,none⟩ _ k (show k≠w.heap.size by omega)).trans (G3.block k hk hne)⟩
    obtain⟨W5,bH⟩:∃x,x=(w3.setCell ⟨w.heap.size,q,none⟩ vv).alloc (Obj.cells #[ql.val,.nilIface] 244):=⟨_,rfl⟩;have A5:Bk W5 w3.heap.size 244 [ql.val,.nilIface]:=by rw[bH,←z4];exact Bk.new _ _ [_,_]
    have B5:Below w3.heap.size (w3.setCell ⟨w.heap.size,q,none⟩ vv) W5:=by rw[bH];exact (Below.refl _ _).alloc (by rw[z4];exact Nat.le_refl _) _
    have K5:=K4.below B5 bW;have r5:=r4.below B5 bI;have G5:=G4.trans (Q0 (by rw[z4];exact B5) g);have bX:D9 (w3.setCell ⟨w.heap.size,q,none⟩ (.int .u8 (n8 (g8 path q ||| 128 >>> UInt8.ofNat r)))) ⟨w.heap.size,0,none⟩ 32=some (c8 path2):=by have:=K4.rows;rw[C6,bO,aP]at this;exact this
    clear K3 G3 r3 K4 r4 G4 B5;have aO:Calls Tryz.prog 154 #[.pointer (some ⟨g,0,none⟩),A8 path2,.int .i64 ((d:Int)+1)] W5 fun e w'=>∃(qr:Pt) (l3:List UInt8) (aA:Int),e=.returned qr.val∧qr.Wf∧Jy w' g l3 aA∧W5.grownBy w' (some g)∧
     ((aG=0∧aA=0∧rd f (way++[true]) l2=.ok (qr,l3))∨(aG=0∧aA≠0∧∃n:Nat,rd f (way++[true]) l2=.error n∧aA=(n:Int))∨(aG≠0∧aA=aG)):=by
     by_cases hb2:aG=0
     ·subst hb2;refine (bK l2 W5 r5).mono ?_;rintro e w6 ⟨g6,hN⟩;obtain⟨qr,l3,aA,h1,h2,h3,h4⟩:=Iz bT.out hN;refine ⟨qr,l3,aA,h1,h2,h3,g6,?_⟩;rcases h4 with ⟨h5,h6⟩ | ⟨h5,h6⟩
      ·exact .inl ⟨rfl,h5,h6⟩
      ·exact .inr (.inl ⟨rfl,h5,h6⟩)
     ·exact (C7s g l2 W5 aG hb2 path2 bO (d+1) r5).mono fun e w6 ⟨h1,h2,h3⟩=>⟨.e,l2,aG,h1,trivial,h2,h3,.inr (.inr ⟨hb2,rfl⟩)⟩
    clear bK;go_wp2_with fail;rw[←aP,←bH];refine aO.mono ?_;rintro e w6 ⟨qr,l3,aA,rfl,aR,r6,g6,aV⟩;have aS:=Lib.hid aV;have A6:=A5.grown (w':=w6) (row:=some g) g6 (fun e=>by injection e with e;omega);have z6:=g6.size;have z5:=A5.lt;have G6:=G5.trans g6;clear aO aV bX bH e0 f0 aP K5 r5 A5 G5 g6;have cD:=Uj aQ;have cE:=Uj aR;have cF:=A0y ql;have bY:=A0y qr;have cG:=r6.lt;have bC:=ql.form3;have bD:=qr.form3;have aH:D9q ql qr (ql.isE&&(qr.isE||qr.isLf)||qr.isE&&ql.isLf):=rfl;have aT:NdV ql qr (.iface 244 (.agg #[ql.val,qr.val])):=rfl;generalize ql.leafB=bl at *;generalize qr.leafB=br at *;generalize ql.val=vl at *;generalize qr.val=vr at *;generalize ql.isE=el at *;generalize qr.isE=er at *;generalize ql.isLf=fl at *;generalize qr.isLf=fr at *;rcases bC with ⟨rfl,rfl,rfl⟩ | ⟨tl,xl,rfl,rfl,rfl⟩ | ⟨tl,xl,rfl,rfl,rfl⟩<;>rcases bD with ⟨rfl,rfl,rfl⟩ | ⟨tr,xr,rfl,rfl,rfl⟩ | ⟨tr,xr,rfl,rfl,rfl⟩
    ·clear bY;have aI:w6.cell? ⟨w3.heap.size,1,none⟩=some .nilIface:=A6.at_ rfl;have aJ:=A6.frozen 1;have k1:=P9 (w6.setCell ⟨w3.heap.size,1,none⟩ .nilIface) 237 (z8 64) 64 w6.heap.size (by simp) (by simp);have k2:=P9 (C4 ((w6.setCell ⟨w3.heap.size,1,none⟩ .nilIface).alloc (Obj.cells (c8 (z8 64)).toArray 237)) ⟨w6.heap.size,0,none⟩ (c8 bl)) 237 (z8 64) 64 (w6.heap.size+1) (by simp) (by simp);have A7:=A6.set_ 1 .nilIface;have aB:=(A7.alloc (Obj.cells (c8 (z8 64)).toArray 237)).putFar (p:=⟨w6.heap.size,0,none⟩) (by simp;omega) (c8 bl);have A9:=(aB.alloc (Obj.cells (c8 (z8 64)).toArray 237)).putFar (p:=⟨w6.heap.size+1,0,none⟩) (by simp;omega) (c8 bl);obtain⟨W9,aC⟩:∃x,x=C4 ((C4 ((w6.setCell ⟨w3.heap.size,1,none⟩ .nilIface).alloc (Obj.cells (c8 (z8 64)).toArray 237)) ⟨w6.heap.size,0,none⟩ (c8 bl)).alloc (Obj.cells (c8 (z8 64)).toArray 237)) ⟨w6.heap.size+1,0,none⟩ (c8 bl):=⟨_,rfl⟩;have B9:Below w.heap.size w6 W9:=by rw[aC];exact C0 (((C0 (((Below.refl _ _).setCell (show w.heap.size≤w3.heap.size by omega) _).alloc (by simp;omega) _) (show w.heap.size≤w6.heap.size by omega) _)).alloc (by simp;omega) _) (show w.heap.size≤w6.heap.size+1 by omega) _
     have r9:=r6.below B9 zg;have G9:=Z6 G6 B9;have d0:=A7.at_ (i:=0) rfl;have d1:=A7.at_ (i:=1) rfl;have d2:=aB.at_ (i:=0) rfl;have d3:=aB.at_ (i:=1) rfl;have d4:=A9.at_ (i:=0) rfl;have d5:=A9.at_ (i:=1) rfl;rw[←aC]at A9;clear A7 aB B9 G6 r6;go_wp2_with fail;rw[←aC];clear aC d0 d1 d2 d3 d4 d5 k1 k2 aI aJ;refine (Aj g l3 W9 aA true r9).mono ?_;rintro e aK ⟨rfl,aL,aD⟩;have aE:=A9.grown (w':=aK) (row:=some g) aD (fun e=>by injection e with e;omega);have aM:=G9.trans aD;have d0:=aE.at_ (i:=0) rfl;have d1:=aE.at_ (i:=1) rfl;clear A9 r9 G9 aD;go_wp2_with fail;go_ret;refine ⟨aM,?_⟩;exact Dw aT aQ aR aH aL aN.out aS.out
    ·have aI:w6.cell? ⟨w3.heap.size,1,none⟩=some .nilIface:=A6.at_ rfl;have aJ:=A6.frozen 1;have k1:=P9 (w6.setCell ⟨w3.heap.size,1,none⟩ (.iface tr xr)) 237 (z8 64) 64 w6.heap.size (by simp) (by simp);have k2:=P9 (C4 ((w6.setCell ⟨w3.heap.size,1,none⟩ (.iface tr xr)).alloc (Obj.cells (c8 (z8 64)).toArray 237)) ⟨w6.heap.size,0,none⟩ (c8 bl)) 237 (z8 64) 64 (w6.heap.size+1) (by simp) (by simp);have A7:=A6.set_ 1 (.iface tr xr);have aB:=(A7.alloc (Obj.cells (c8 (z8 64)).toArray 237)).putFar (p:=⟨w6.heap.size,0,none⟩) (by simp;omega) (c8 bl);have A9:=(aB.alloc (Obj.cells (c8 (z8 64)).toArray 237)).putFar (p:=⟨w6.heap.size+1,0,none⟩) (by simp;omega) (c8 br);obtain⟨W9,aC⟩:∃x,x=C4 ((C4 ((w6.setCell ⟨w3.heap.size,1,none⟩ (.iface tr xr)).alloc (Obj.cells (c8 (z8 64)).toArray 237)) ⟨w6.heap.size,0,none⟩ (c8 bl)).alloc (Obj.cells (c8 (z8 64)).toArray 237)) ⟨w6.heap.size+1,0,none⟩ (c8 br):=⟨_,rfl⟩;have B9:Below w.heap.size w6 W9:=by rw[aC];exact C0 (((C0 (((Below.refl _ _).setCell (show w.heap.size≤w3.heap.size by omega) _).alloc (by simp;omega) _) (show w.heap.size≤w6.heap.size by omega) _)).alloc (by simp;omega) _) (show w.heap.size≤w6.heap.size+1 by omega) _
     have r9:=r6.below B9 zg;have G9:=Z6 G6 B9;have d0:=A7.at_ (i:=0) rfl;have d1:=A7.at_ (i:=1) rfl;have d2:=aB.at_ (i:=0) rfl;have d3:=aB.at_ (i:=1) rfl;have d4:=A9.at_ (i:=0) rfl;have d5:=A9.at_ (i:=1) rfl;rw[←aC]at A9;clear A7 aB B9 G6 r6;go_wp2_with fail;rw[←aC];clear aC d0 d1 d2 d3 d4 d5 k1 k2 aI aJ;refine (Aj g l3 W9 aA true r9).mono ?_;rintro e aK ⟨rfl,aL,aD⟩;have aE:=A9.grown (w':=aK) (row:=some g) aD (fun e=>by injection e with e;omega);have aM:=G9.trans aD;have d0:=aE.at_ (i:=0) rfl;have d1:=aE.at_ (i:=1) rfl;clear A9 r9 G9 aD;go_wp2_with fail;go_ret;refine ⟨aM,?_⟩;exact Dw aT aQ aR aH aL aN.out aS.out
    ·have aI:w6.cell? ⟨w3.heap.size,1,none⟩=some .nilIface:=A6.at_ rfl;have aJ:=A6.frozen 1;have k1:=P9 (w6.setCell ⟨w3.heap.size,1,none⟩ (.iface tr xr)) 237 (z8 64) 64 w6.heap.size (by simp) (by simp);have k2:=P9 (C4 ((w6.setCell ⟨w3.heap.size,1,none⟩ (.iface tr xr)).alloc (Obj.cells (c8 (z8 64)).toArray 237)) ⟨w6.heap.size,0,none⟩ (c8 bl)) 237 (z8 64) 64 (w6.heap.size+1) (by simp) (by simp);have A7:=A6.set_ 1 (.iface tr xr);have aB:=(A7.alloc (Obj.cells (c8 (z8 64)).toArray 237)).putFar (p:=⟨w6.heap.size,0,none⟩) (by simp;omega) (c8 bl);have A9:=(aB.alloc (Obj.cells (c8 (z8 64)).toArray 237)).putFar (p:=⟨w6.heap.size+1,0,none⟩) (by simp;omega) (c8 br);obtain⟨W9,aC⟩:∃x,x=C4 ((C4 ((w6.setCell ⟨w3.heap.size,1,none⟩ (.iface tr xr)).alloc (Obj.cells (c8 (z8 64)).toArray 237)) ⟨w6.heap.size,0,none⟩ (c8 bl)).alloc (Obj.cells (c8 (z8 64)).toArray 237)) ⟨w6.heap.size+1,0,none⟩ (c8 br):=⟨_,rfl⟩;have B9:Below w.heap.size w6 W9:=by rw[aC];exact C0 (((C0 (((Below.refl _ _).setCell (show w.heap.size≤w3.heap.size by omega) _).alloc (by simp;omega) _) (show w.heap.size≤w6.heap.size by omega) _)).alloc (by simp;omega) _) (show w.heap.size≤w6.heap.size+1 by omega) _
     have r9:=r6.below B9 zg;have G9:=Z6 G6 B9;have d0:=A7.at_ (i:=0) rfl;have d1:=A7.at_ (i:=1) rfl;have d2:=aB.at_ (i:=0) rfl;have d3:=aB.at_ (i:=1) rfl;have d4:=A9.at_ (i:=0) rfl;have d5:=A9.at_ (i:=1) rfl;rw[←aC]at A9;clear A7 aB B9 G6 r6;go_wp2_with fail;rw[←aC];clear aC d0 d1 d2 d3 d4 d5 k1 k2 aI aJ;refine (Aj g l3 W9 aA false r9).mono ?_;rintro e aK ⟨rfl,aL,aD⟩;have aE:=A9.grown (w':=aK) (row:=some g) aD (fun e=>by injection e with e;omega);have aM:=G9.trans aD;have d0:=aE.at_ (i:=0) rfl;have d1:=aE.at_ (i:=1) rfl;clear A9 r9 G9 aD;go_wp2_with fail;go_ret;refine ⟨aM,?_⟩;exact Dw aT aQ aR aH aL aN.out aS.out
    ·have aI:w6.cell? ⟨w3.heap.size,1,none⟩=some .nilIface:=A6.at_ rfl;have aJ:=A6.frozen 1;have k1:=P9 (w6.setCell ⟨w3.heap.size,1,none⟩ .nilIface) 237 (z8 64) 64 w6.heap.size (by simp) (by simp);have k2:=P9 (C4 ((w6.setCell ⟨w3.heap.size,1,none⟩ .nilIface).alloc (Obj.cells (c8 (z8 64)).toArray 237)) ⟨w6.heap.size,0,none⟩ (c8 bl)) 237 (z8 64) 64 (w6.heap.size+1) (by simp) (by simp);have A7:=A6.set_ 1 .nilIface;have aB:=(A7.alloc (Obj.cells (c8 (z8 64)).toArray 237)).putFar (p:=⟨w6.heap.size,0,none⟩) (by simp;omega) (c8 bl);have A9:=(aB.alloc (Obj.cells (c8 (z8 64)).toArray 237)).putFar (p:=⟨w6.heap.size+1,0,none⟩) (by simp;omega) (c8 br);obtain⟨W9,aC⟩:∃x,x=C4 ((C4 ((w6.setCell ⟨w3.heap.size,1,none⟩ .nilIface).alloc (Obj.cells (c8 (z8 64)).toArray 237)) ⟨w6.heap.size,0,none⟩ (c8 bl)).alloc (Obj.cells (c8 (z8 64)).toArray 237)) ⟨w6.heap.size+1,0,none⟩ (c8 br):=⟨_,rfl⟩;have B9:Below w.heap.size w6 W9:=by rw[aC];exact C0 (((C0 (((Below.refl _ _).setCell (show w.heap.size≤w3.heap.size by omega) _).alloc (by simp;omega) _) (show w.heap.size≤w6.heap.size by omega) _)).alloc (by simp;omega) _) (show w.heap.size≤w6.heap.size+1 by omega) _
     have r9:=r6.below B9 zg;have G9:=Z6 G6 B9;have d0:=A7.at_ (i:=0) rfl;have d1:=A7.at_ (i:=1) rfl;have d2:=aB.at_ (i:=0) rfl;have d3:=aB.at_ (i:=1) rfl;have d4:=A9.at_ (i:=0) rfl;have d5:=A9.at_ (i:=1) rfl;rw[←aC]at A9;clear A7 aB B9 G6 r6;go_wp2_with fail;rw[←aC];clear aC d0 d1 d2 d3 d4 d5 k1 k2 aI aJ;refine (Aj g l3 W9 aA true r9).mono ?_;rintro e aK ⟨rfl,aL,aD⟩;have aE:=A9.grown (w':=aK) (row:=some g) aD (fun e=>by injection e with e;omega);have aM:=G9.trans aD;have d0:=aE.at_ (i:=0) rfl;have d1:=aE.at_ (i:=1) rfl;clear A9 r9 G9 aD;go_wp2_with fail;go_ret;refine ⟨aM,?_⟩;exact Dw aT aQ aR aH aL aN.out aS.out
    ·have aI:w6.cell? ⟨w3.heap.size,1,none⟩=some .nilIface:=A6.at_ rfl;have aJ:=A6.frozen 1;have k1:=P9 (w6.setCell ⟨w3.heap.size,1,none⟩ (.iface tr xr)) 237 (z8 64) 64 w6.heap.size (by simp) (by simp);have k2:=P9 (C4 ((w6.setCell ⟨w3.heap.size,1,none⟩ (.iface tr xr)).alloc (Obj.cells (c8 (z8 64)).toArray 237)) ⟨w6.heap.size,0,none⟩ (c8 bl)) 237 (z8 64) 64 (w6.heap.size+1) (by simp) (by simp);have A7:=A6.set_ 1 (.iface tr xr);have aB:=(A7.alloc (Obj.cells (c8 (z8 64)).toArray 237)).putFar (p:=⟨w6.heap.size,0,none⟩) (by simp;omega) (c8 bl);have A9:=(aB.alloc (Obj.cells (c8 (z8 64)).toArray 237)).putFar (p:=⟨w6.heap.size+1,0,none⟩) (by simp;omega) (c8 br);obtain⟨W9,aC⟩:∃x,x=C4 ((C4 ((w6.setCell ⟨w3.heap.size,1,none⟩ (.iface tr xr)).alloc (Obj.cells (c8 (z8 64)).toArray 237)) ⟨w6.heap.size,0,none⟩ (c8 bl)).alloc (Obj.cells (c8 (z8 64)).toArray 237)) ⟨w6.heap.size+1,0,none⟩ (c8 br):=⟨_,rfl⟩;have B9:Below w.heap.size w6 W9:=by rw[aC];exact C0 (((C0 (((Below.refl _ _).setCell (show w.heap.size≤w3.heap.size by omega) _).alloc (by simp;omega) _) (show w.heap.size≤w6.heap.size by omega) _)).alloc (by simp;omega) _) (show w.heap.size≤w6.heap.size+1 by omega) _
     have r9:=r6.below B9 zg;have G9:=Z6 G6 B9;have d0:=A7.at_ (i:=0) rfl;have d1:=A7.at_ (i:=1) rfl;have d2:=aB.at_ (i:=0) rfl;have d3:=aB.at_ (i:=1) rfl;have d4:=A9.at_ (i:=0) rfl;have d5:=A9.at_ (i:=1) rfl;rw[←aC]at A9;clear A7 aB B9 G6 r6;go_wp2_with fail;rw[←aC];clear aC d0 d1 d2 d3 d4 d5 k1 k2 aI aJ;refine (Aj g l3 W9 aA false r9).mono ?_;rintro e aK ⟨rfl,aL,aD⟩;have aE:=A9.grown (w':=aK) (row:=some g) aD (fun e=>by injection e with e;omega);have aM:=G9.trans aD;have d0:=aE.at_ (i:=0) rfl;have d1:=aE.at_ (i:=1) rfl;clear A9 r9 G9 aD;go_wp2_with fail;go_ret;refine ⟨aM,?_⟩;exact Dw aT aQ aR aH aL aN.out aS.out
    ·have aI:w6.cell? ⟨w3.heap.size,1,none⟩=some .nilIface:=A6.at_ rfl;have aJ:=A6.frozen 1;have k1:=P9 (w6.setCell ⟨w3.heap.size,1,none⟩ (.iface tr xr)) 237 (z8 64) 64 w6.heap.size (by simp) (by simp);have k2:=P9 (C4 ((w6.setCell ⟨w3.heap.size,1,none⟩ (.iface tr xr)).alloc (Obj.cells (c8 (z8 64)).toArray 237)) ⟨w6.heap.size,0,none⟩ (c8 bl)) 237 (z8 64) 64 (w6.heap.size+1) (by simp) (by simp);have A7:=A6.set_ 1 (.iface tr xr);have aB:=(A7.alloc (Obj.cells (c8 (z8 64)).toArray 237)).putFar (p:=⟨w6.heap.size,0,none⟩) (by simp;omega) (c8 bl);have A9:=(aB.alloc (Obj.cells (c8 (z8 64)).toArray 237)).putFar (p:=⟨w6.heap.size+1,0,none⟩) (by simp;omega) (c8 br);obtain⟨W9,aC⟩:∃x,x=C4 ((C4 ((w6.setCell ⟨w3.heap.size,1,none⟩ (.iface tr xr)).alloc (Obj.cells (c8 (z8 64)).toArray 237)) ⟨w6.heap.size,0,none⟩ (c8 bl)).alloc (Obj.cells (c8 (z8 64)).toArray 237)) ⟨w6.heap.size+1,0,none⟩ (c8 br):=⟨_,rfl⟩;have B9:Below w.heap.size w6 W9:=by rw[aC];exact C0 (((C0 (((Below.refl _ _).setCell (show w.heap.size≤w3.heap.size by omega) _).alloc (by simp;omega) _) (show w.heap.size≤w6.heap.size by omega) _)).alloc (by simp;omega) _) (show w.heap.size≤w6.heap.size+1 by omega) _
     have r9:=r6.below B9 zg;have G9:=Z6 G6 B9;have d0:=A7.at_ (i:=0) rfl;have d1:=A7.at_ (i:=1) rfl;have d2:=aB.at_ (i:=0) rfl;have d3:=aB.at_ (i:=1) rfl;have d4:=A9.at_ (i:=0) rfl;have d5:=A9.at_ (i:=1) rfl;rw[←aC]at A9;clear A7 aB B9 G6 r6;go_wp2_with fail;rw[←aC];clear aC d0 d1 d2 d3 d4 d5 k1 k2 aI aJ;refine (Aj g l3 W9 aA false r9).mono ?_;rintro e aK ⟨rfl,aL,aD⟩;have aE:=A9.grown (w':=aK) (row:=some g) aD (fun e=>by injection e with e;omega);have aM:=G9.trans aD;have d0:=aE.at_ (i:=0) rfl;have d1:=aE.at_ (i:=1) rfl;clear A9 r9 G9 aD;go_wp2_with fail;go_ret;refine ⟨aM,?_⟩;exact Dw aT aQ aR aH aL aN.out aS.out
    ·have aI:w6.cell? ⟨w3.heap.size,1,none⟩=some .nilIface:=A6.at_ rfl;have aJ:=A6.frozen 1;have k1:=P9 (w6.setCell ⟨w3.heap.size,1,none⟩ .nilIface) 237 (z8 64) 64 w6.heap.size (by simp) (by simp);have k2:=P9 (C4 ((w6.setCell ⟨w3.heap.size,1,none⟩ .nilIface).alloc (Obj.cells (c8 (z8 64)).toArray 237)) ⟨w6.heap.size,0,none⟩ (c8 bl)) 237 (z8 64) 64 (w6.heap.size+1) (by simp) (by simp);have A7:=A6.set_ 1 .nilIface;have aB:=(A7.alloc (Obj.cells (c8 (z8 64)).toArray 237)).putFar (p:=⟨w6.heap.size,0,none⟩) (by simp;omega) (c8 bl);have A9:=(aB.alloc (Obj.cells (c8 (z8 64)).toArray 237)).putFar (p:=⟨w6.heap.size+1,0,none⟩) (by simp;omega) (c8 br);obtain⟨W9,aC⟩:∃x,x=C4 ((C4 ((w6.setCell ⟨w3.heap.size,1,none⟩ .nilIface).alloc (Obj.cells (c8 (z8 64)).toArray 237)) ⟨w6.heap.size,0,none⟩ (c8 bl)).alloc (Obj.cells (c8 (z8 64)).toArray 237)) ⟨w6.heap.size+1,0,none⟩ (c8 br):=⟨_,rfl⟩;have B9:Below w.heap.size w6 W9:=by rw[aC];exact C0 (((C0 (((Below.refl _ _).setCell (show w.heap.size≤w3.heap.size by omega) _).alloc (by simp;omega) _) (show w.heap.size≤w6.heap.size by omega) _)).alloc (by simp;omega) _) (show w.heap.size≤w6.heap.size+1 by omega) _
     have r9:=r6.below B9 zg;have G9:=Z6 G6 B9;have d0:=A7.at_ (i:=0) rfl;have d1:=A7.at_ (i:=1) rfl;have d2:=aB.at_ (i:=0) rfl;have d3:=aB.at_ (i:=1) rfl;have d4:=A9.at_ (i:=0) rfl;have d5:=A9.at_ (i:=1) rfl;rw[←aC]at A9;clear A7 aB B9 G6 r6;go_wp2_with fail;rw[←aC];clear aC d0 d1 d2 d3 d4 d5 k1 k2 aI aJ;refine (Aj g l3 W9 aA false r9).mono ?_;rintro e aK ⟨rfl,aL,aD⟩;have aE:=A9.grown (w':=aK) (row:=some g) aD (fun e=>by injection e with e;omega);have aM:=G9.trans aD;have d0:=aE.at_ (i:=0) rfl;have d1:=aE.at_ (i:=1) rfl;clear A9 r9 G9 aD;go_wp2_with fail;go_ret;refine ⟨aM,?_⟩;exact Dw aT aQ aR aH aL aN.out aS.out
    ·have aI:w6.cell? ⟨w3.heap.size,1,none⟩=some .nilIface:=A6.at_ rfl;have aJ:=A6.frozen 1;have k1:=P9 (w6.setCell ⟨w3.heap.size,1,none⟩ (.iface tr xr)) 237 (z8 64) 64 w6.heap.size (by simp) (by simp);have k2:=P9 (C4 ((w6.setCell ⟨w3.heap.size,1,none⟩ (.iface tr xr)).alloc (Obj.cells (c8 (z8 64)).toArray 237)) ⟨w6.heap.size,0,none⟩ (c8 bl)) 237 (z8 64) 64 (w6.heap.size+1) (by simp) (by simp);have A7:=A6.set_ 1 (.iface tr xr);have aB:=(A7.alloc (Obj.cells (c8 (z8 64)).toArray 237)).putFar (p:=⟨w6.heap.size,0,none⟩) (by simp;omega) (c8 bl);have A9:=(aB.alloc (Obj.cells (c8 (z8 64)).toArray 237)).putFar (p:=⟨w6.heap.size+1,0,none⟩) (by simp;omega) (c8 br);obtain⟨W9,aC⟩:∃x,x=C4 ((C4 ((w6.setCell ⟨w3.heap.size,1,none⟩ (.iface tr xr)).alloc (Obj.cells (c8 (z8 64)).toArray 237)) ⟨w6.heap.size,0,none⟩ (c8 bl)).alloc (Obj.cells (c8 (z8 64)).toArray 237)) ⟨w6.heap.size+1,0,none⟩ (c8 br):=⟨_,rfl⟩;have B9:Below w.heap.size w6 W9:=by rw[aC];exact C0 (((C0 (((Below.refl _ _).setCell (show w.heap.size≤w3.heap.size by omega) _).alloc (by simp;omega) _) (show w.heap.size≤w6.heap.size by omega) _)).alloc (by simp;omega) _) (show w.heap.size≤w6.heap.size+1 by omega) _
     have r9:=r6.below B9 zg;have G9:=Z6 G6 B9;have d0:=A7.at_ (i:=0) rfl;have d1:=A7.at_ (i:=1) rfl;have d2:=aB.at_ (i:=0) rfl;have d3:=aB.at_ (i:=1) rfl;have d4:=A9.at_ (i:=0) rfl;have d5:=A9.at_ (i:=1) rfl;rw[←aC]at A9;clear A7 aB B9 G6 r6;go_wp2_with fail;rw[←aC];clear aC d0 d1 d2 d3 d4 d5 k1 k2 aI aJ;refine (Aj g l3 W9 aA false r9).mono ?_;rintro e aK ⟨rfl,aL,aD⟩;have aE:=A9.grown (w':=aK) (row:=some g) aD (fun e=>by injection e with e;omega);have aM:=G9.trans aD;have d0:=aE.at_ (i:=0) rfl;have d1:=aE.at_ (i:=1) rfl;clear A9 r9 G9 aD;go_wp2_with fail;go_ret;refine ⟨aM,?_⟩;exact Dw aT aQ aR aH aL aN.out aS.out
    ·have aI:w6.cell? ⟨w3.heap.size,1,none⟩=some .nilIface:=A6.at_ rfl;have aJ:=A6.frozen 1;have k1:=P9 (w6.setCell ⟨w3.heap.size,1,none⟩ (.iface tr xr)) 237 (z8 64) 64 w6.heap.size (by simp) (by simp);have k2:=P9 (C4 ((w6.setCell ⟨w3.heap.size,1,none⟩ (.iface tr xr)).alloc (Obj.cells (c8 (z8 64)).toArray 237)) ⟨w6.heap.size,0,none⟩ (c8 bl)) 237 (z8 64) 64 (w6.heap.size+1) (by simp) (by simp);have A7:=A6.set_ 1 (.iface tr xr);have aB:=(A7.alloc (Obj.cells (c8 (z8 64)).toArray 237)).putFar (p:=⟨w6.heap.size,0,none⟩) (by simp;omega) (c8 bl);have A9:=(aB.alloc (Obj.cells (c8 (z8 64)).toArray 237)).putFar (p:=⟨w6.heap.size+1,0,none⟩) (by simp;omega) (c8 br);obtain⟨W9,aC⟩:∃x,x=C4 ((C4 ((w6.setCell ⟨w3.heap.size,1,none⟩ (.iface tr xr)).alloc (Obj.cells (c8 (z8 64)).toArray 237)) ⟨w6.heap.size,0,none⟩ (c8 bl)).alloc (Obj.cells (c8 (z8 64)).toArray 237)) ⟨w6.heap.size+1,0,none⟩ (c8 br):=⟨_,rfl⟩;have B9:Below w.heap.size w6 W9:=by rw[aC];exact C0 (((C0 (((Below.refl _ _).setCell (show w.heap.size≤w3.heap.size by omega) _).alloc (by simp;omega) _) (show w.heap.size≤w6.heap.size by omega) _)).alloc (by simp;omega) _) (show w.heap.size≤w6.heap.size+1 by omega) _
     have r9:=r6.below B9 zg;have G9:=Z6 G6 B9;have d0:=A7.at_ (i:=0) rfl;have d1:=A7.at_ (i:=1) rfl;have d2:=aB.at_ (i:=0) rfl;have d3:=aB.at_ (i:=1) rfl;have d4:=A9.at_ (i:=0) rfl;have d5:=A9.at_ (i:=1) rfl;rw[←aC]at A9;clear A7 aB B9 G6 r6;go_wp2_with fail;rw[←aC];clear aC d0 d1 d2 d3 d4 d5 k1 k2 aI aJ;refine (Aj g l3 W9 aA false r9).mono ?_;rintro e aK ⟨rfl,aL,aD⟩;have aE:=A9.grown (w':=aK) (row:=some g) aD (fun e=>by injection e with e;omega);have aM:=G9.trans aD;have d0:=aE.at_ (i:=0) rfl;have d1:=aE.at_ (i:=1) rfl;clear A9 r9 G9 aD;go_wp2_with fail;go_ret;refine ⟨aM,?_⟩;exact Dw aT aQ aR aH aL aN.out aS.out
  by_cases e3:k=3
  ·
   subst e3;rw[show ((3:UInt8)==0)=false from rfl]at q0;rw[show ((3:UInt8)==1)=false from rfl]at q1;rw[show ((3:UInt8)==2)=false from rfl]at q2;rw[show ((3:UInt8)==3)=true from rfl]at q3;have aF:rd f way (3::b)=if b.length<32 then .error 10 else .ok (.hd (b.take 32),b.drop 32):=by cases f<;>rfl
   have HR:=Lib.hid aF;clear aF;go_wp2_with fail;refine (A2a g b w1 0 r1).mono ?_;rintro e w2 ⟨x,l',bZ,rfl,hx,r2,g2,hc⟩;have HC:=Lib.hid hc;clear hc;go_wp2_with fail;go_ret;refine ⟨G1.trans g2,?_⟩;rw[HR.out];rcases HC.out with ⟨_,hl,rfl,rfl,rfl⟩ | ⟨_,hl,rfl⟩ | ⟨hl,_⟩
   ·rw[if_neg (by omega)];exact ⟨rfl,r2⟩
   ·rw[if_pos hl];exact ⟨.hd x,l',rfl,r2,hx⟩
   ·exact absurd rfl hl
  ·
   have f0:(k==0)=false:=by simpa using e0
   have f1:(k==1)=false:=by simpa using e1
   have f2:(k==2)=false:=by simpa using e2
   have f3:(k==3)=false:=by simpa using e3
   rw[f0]at q0;rw[f1]at q1;rw[f2]at q2;rw[f3]at q3;have aF:rd f way (k::b)=.error 13:=by cases f<;>simp only[rd,rd1,e0,e1,e2,e3,if_false]
   go_wp2_with fail;refine (Aj g b w1 0 true r1).mono ?_;rintro e w2 ⟨rfl,r2,g2⟩;go_wp2_with fail;go_ret;rw[aF];exact ⟨G1.trans g2,.e,b,rfl,r2,trivial⟩
end
theorem C5k (g:Nat):∀(f:Nat) (way:List Bool) (path:List UInt8),path.length=32→(∀i,i<256→I6 path i=Kq way i)→f+way.length=256→∀(l:List UInt8) (w:World),Jy w g l 0→
 Calls Tryz.prog 154 #[.pointer (some ⟨g,0,none⟩),A8 path,.int .i64 (way.length:Int)] w fun e w'=>w.grownBy w' (some g)∧Uk g (rd f way l) e w':=by
 intro f;induction f with
 | zero=>intro way path hp hw hf l w h;exact A3y g 0 way path hp hw hf (fun f' e=>by omega) l w h
 | succ f ih=>
  intro way path hp hw hf l w h;refine A3y g (f+1) way path hp hw hf (fun f' e=>?_) l w h;have:f=f':=by omega
  subst this;exact ih
end
def Mg (l:List UInt8):Except Nat Pt:=match rd 256 [] l with
 | .error n=>.error n
 | .ok (p,[])=>.ok p
 | .ok (_,_::_)=>.error 11
def Om (r:Except Nat Pt) (q:Pt) (n:Int):Prop:=match r with | .ok p=>q=p∧n=0 | .error m=>q=.e∧n=(m:Int)
theorem C4w (i:Nat):I6 (z8 32) i=false:=by
 rw[Jj];have:g8 (z8 32) (i / 8)=0:=by
  unfold g8 z8;rw[List.getD_eq_getElem?_getD,List.getElem?_replicate];split<;>rfl
 rw[this];simp
theorem C2c (v:Value) (l:List UInt8) (w:World) (hv:By w 0 w.heap.size v l) :
 Calls Tryz.prog 97 #[v] w fun e w'=>∃(q:Pt) (n:Int),e=.returned (.tuple #[.agg #[q.val],.int .i64 n])∧Om (Mg l) q n∧Below w.heap.size w w':=by
 obtain⟨W0,aB⟩:∃x,x=(w.alloc (Obj.cells #[.nilIface] 122)).alloc (Obj.cells #[v,.int .i64 0] 247):=⟨_,rfl⟩;have B0:Below w.heap.size w W0:=by rw[aB];exact ((Below.refl _ _).alloc (Nat.le_refl _) _).alloc (by simp) _
 have R0:Bk W0 w.heap.size 122 [.nilIface]:=by rw[aB];exact (Bk.new w _ [_]).alloc _
 have K0:Bk W0 (w.heap.size+1) 247 [v,.int .i64 0]:=by rw[aB];simpa using Bk.new (w.alloc (Obj.cells #[.nilIface] 122)) 247 [v,.int .i64 0]
 have r0:Jy W0 (w.heap.size+1) l 0:=⟨v,K0,(hv.below B0).more (by omega)⟩;have hn:=C5k (w.heap.size+1) 256 [] (z8 32) (by simp) (fun i hi=>by rw[C4w];rfl) rfl l W0 r0;obtain⟨A,c,aF,aK,aL,_⟩:=hv.open_;subst aF;go_enter Tryz.func97,Tryz.ntmps97;go_wp2_with fail;rw[←aB];clear aB;refine hn.mono ?_;rintro e w1 ⟨g1,hN⟩;obtain⟨q,l1,aA,rfl,hw,r1,hc⟩:=Iz (way:=[]) rfl hN;clear hn hN r0 K0;have R1:=R0.grown (w':=w1) (row:=some (w.heap.size+1)) g1 (fun e=>by injection e with e;omega);have B1:Below w.heap.size w w1:=B0.grown g1 B0.size (fun k hk=>by injection hk with hk;omega);have HC:=Lib.hid hc;have aM:0≤aA:=by rcases hc with ⟨rfl,_⟩ | ⟨_,n,_,rfl⟩<;>omega
 clear hc g1;obtain⟨u,K1,hu⟩:=r1;obtain⟨A1,aD,rfl,aG,aH,_⟩:=hu.open_;have d0:=K1.at_ (i:=0) rfl;have d1:=K1.at_ (i:=1) rfl;have f1:=K1.frozen 1;have p0:=R1.at_ (i:=0) rfl;have pf:=R1.frozen 0;by_cases hb:aA=0
 ·subst hb;by_cases hl:l1=[]
  ·subst hl;have aC:Om (Mg l) q 0:=by
    rcases HC.out with ⟨_,hr⟩ | ⟨h,_⟩
    ·unfold Om Mg;rw[hr];exact ⟨rfl,rfl⟩
    ·exact absurd rfl h
   rcases q.form with hq | ⟨tq,xq,hq⟩
   ·rw[hq];go_wp2_with fail;exact bodyPost_ret (I9 rfl (H9.row (R1.set_ 0 .nilIface) rfl _ Tryz.underlying122 rfl (by kernel_rfl)) (H9.tmp rfl)) rfl ⟨q,0,by rw[hq];rfl,aC,B1.setCell (by simp) _⟩
   ·rw[hq];go_wp2_with fail;exact bodyPost_ret (I9 rfl (H9.row (R1.set_ 0 (.iface tq xq)) rfl _ Tryz.underlying122 rfl (by kernel_rfl)) (H9.tmp rfl)) rfl ⟨q,0,by rw[hq];rfl,aC,B1.setCell (by simp) _⟩
  ·have aN:0<l1.length:=List.length_pos_iff.2 hl;have aO:decide ((l1.length:Int) > 0)=true:=decide_eq_true (by omega);have K2:=K1.set_ 1 (.int .i64 11);have R2:=R1.far (p:=⟨w.heap.size+1,1,none⟩) (by simp) (.int .i64 11);have B2:Below w.heap.size w (w1.setCell ⟨w.heap.size+1,1,none⟩ (.int .i64 11)):=B1.setCell (show w.heap.size≤w.heap.size+1 by omega) _;obtain⟨W2,aE⟩:∃x,x=w1.setCell ⟨w.heap.size+1,1,none⟩ (.int .i64 11):=⟨_,rfl⟩;have e1:=K2.at_ (i:=1) rfl;rw[←aE]at K2 R2 B2;go_wp2_with fail;rw[←aE];clear aE e1 d0 d1 f1 p0 pf K1 R1 B1;have p1:W2.drew.cell? ⟨w.heap.size,0,none⟩=some .nilIface:=R2.at_ rfl;have aI:W2.drew.frozen? ⟨w.heap.size,0,none⟩=false:=R2.frozen 0;have S0:Bk W2.drew (w.heap.size+1) 247 [.slice A1 l1.length aD,.int .i64 11]∧Bk W2.drew w.heap.size 122 [.nilIface]:=⟨K2.drew,R2.drew⟩;refine E3 (fun W=>Bk W (w.heap.size+1) 247 [.slice A1 l1.length aD,.int .i64 11]∧Bk W w.heap.size 122 [.nilIface]) (by kernel_rfl) ?_;refine C5 (A:=?A2) [0,1,2,3,4] (by kernel_rfl) (by kernel_rfl) rfl (by kernel_rfl) (by kernel_rfl) S0 (h:=fun W hW=>?h2) (hr:=?r2);case h2=>
    have d1:=hW.1.at_ (i:=1) rfl;simp only[pick,List.getElem?_cons_zero,List.getElem?_cons_succ];repeat (go_big_quiet_step (fail))
    refine wpQuiet_nil ?_;rfl
   case r2=>
    refine C3 5 (by kernel_rfl) (by rfl) (by rfl) (fun Q' hQ'=>?_);dsimp only[E5];go_wp2_with fail;refine hQ' _ _ ⟨S0.1.far (by simp) _,S0.2.set_ 0 .nilIface⟩ ?_;clear hQ';refine C3 6 (by kernel_rfl) (by rfl) (by rfl) (fun Q' hQ'=>?_);dsimp only[E5];go_wp2_with fail;refine hQ' _ _ ⟨S0.1.far (by simp) _,S0.2.set_ 0 .nilIface⟩ ?_;clear hQ';refine F0 (by kernel_rfl) ?_;go_wp2_with fail;refine bodyPost_ret (I9 rfl (H9.row (S0.2.set_ 0 .nilIface) rfl _ Tryz.underlying122 rfl (by kernel_rfl)) (H9.tmp rfl)) rfl ⟨.e,11,rfl,?_,B2.drew.setCell (by simp) _⟩;rcases HC.out with ⟨_,hr⟩ | ⟨h,_⟩
    ·unfold Om Mg;rw[hr];cases l1 with
     | nil=>exact absurd rfl hl
     | cons x r=>exact ⟨rfl,rfl⟩
    ·exact absurd rfl h
 ·have aP:(aA==0)=false:=beq_eq_false_iff_ne.2 hb;have aJ:(aA != 0)=true:=by simp[hb]
  go_wp2_with fail;have S0:Bk w1.drew (w.heap.size+1) 247 [.slice A1 l1.length aD,.int .i64 aA]∧Bk w1.drew w.heap.size 122 [.nilIface]:=⟨K1.drew,R1.drew⟩;have p1:w1.drew.cell? ⟨w.heap.size,0,none⟩=some .nilIface:=p0;have aI:w1.drew.frozen? ⟨w.heap.size,0,none⟩=false:=pf;refine E3 (fun W=>Bk W (w.heap.size+1) 247 [.slice A1 l1.length aD,.int .i64 aA]∧Bk W w.heap.size 122 [.nilIface]) (by kernel_rfl) ?_;refine C5 (A:=?A1) [0,1,2,3,4] (by kernel_rfl) (by kernel_rfl) rfl (by kernel_rfl) (by kernel_rfl) S0 (h:=fun W hW=>?h1) (hr:=?r1);case h1=>
   have d1:=hW.1.at_ (i:=1) rfl;simp only[pick,List.getElem?_cons_zero,List.getElem?_cons_succ];repeat (go_big_quiet_step (fail))
   refine wpQuiet_nil ?_;rfl
  case r1=>
   refine C3 5 (by kernel_rfl) (by rfl) (by rfl) (fun Q' hQ'=>?_);dsimp only[E5];go_wp2_with fail;refine hQ' _ _ ⟨S0.1.far (by simp) _,S0.2.set_ 0 .nilIface⟩ ?_;clear hQ';refine C3 6 (by kernel_rfl) (by rfl) (by rfl) (fun Q' hQ'=>?_);dsimp only[E5];go_wp2_with fail;refine hQ' _ _ ⟨S0.1.far (by simp) _,S0.2.set_ 0 .nilIface⟩ ?_;clear hQ';refine F0 (by kernel_rfl) ?_;go_wp2_with fail;refine bodyPost_ret (I9 rfl (H9.row (S0.2.set_ 0 .nilIface) rfl _ Tryz.underlying122 rfl (by kernel_rfl)) (H9.tmp rfl)) rfl ⟨.e,aA,rfl,?_,B1.drew.setCell (by simp) _⟩;rcases HC.out with ⟨h,_⟩ | ⟨_,n,hr,hbn⟩
   ·exact absurd h hb
   ·unfold Om Mg;rw[hr];exact ⟨rfl,hbn⟩
abbrev G0 := List UInt8 × List (List UInt8) × List UInt8
end Go.Proofs.YtdfpoofbgjilgaaGreat
