/- A part of the proof of ClientForks. -/
import Derived.Outline
import Derived.Test.YtdfpoofbgjilgaaGreatVaw
set_option linter.unusedVariables false
set_option linter.unusedSimpArgs false
set_option maxRecDepth 100000
set_option maxHeartbeats 40000000
namespace Go.Proofs.YtdfpoofbgjilgaaGreat
open Go Go.RowKit Sh
theorem D0w (y:UInt8):(n8 (y &&& 1)==1)=(y &&& 1==1):=by
 have h:∀z:UInt8,(n8 z==1)=(z==1):=fun z=>by
  unfold n8;rw[Bool.eq_iff_iff,beq_iff_eq,beq_iff_eq,←UInt8.toNat_inj];have:(1:UInt8).toNat=1:=rfl;omega
 exact h _
theorem Mi (k:List UInt8) (n:Nat) (hk:k.length=32) (hn:n<256) (w:World) :
 Calls Tryz.prog 151 #[A8 k,.int .i64 (n:Int)] w fun e w'=>e=.returned (.bool (I6 k n))∧Below w.heap.size w w':=by
 have hc:(w.alloc (.cells (c8 k).toArray 35)).cell? ⟨w.heap.size,n / 8,none⟩=some (.int .u8 (n8 (g8 k (n / 8)))):=(Bk.new w _ _).at_ (Jo (by omega));have hb:Hid (I6 k n=((g8 k (n / 8) >>> UInt8.ofNat (7-n % 8)) &&& 1==1)):=Lib.hid rfl;generalize g8 k (n / 8)=x at *;have h1:(n:Int) / 8=((n / 8:Nat):Int):=by omega
 have hq:n / 8<32:=by omega
 have h2:(n:Int) % 8=((n % 8:Nat):Int):=by omega
 have hr:n % 8<8:=by omega
 generalize hnq:n / 8=q at *;generalize hnr:n % 8=r at *;clear hnq hnr;have aA:r=0∨r=1∨r=2∨r=3∨r=4∨r=5∨r=6∨r=7:=by omega
 rcases aA with rfl | rfl | rfl | rfl | rfl | rfl | rfl | rfl;all_goals
  go_enter Tryz.func151,Tryz.ntmps151;go_wp2;go_ret;refine ⟨?_,(Below.refl _ _).alloc (Nat.le_refl _) _⟩;rw[hb.out];first | exact congrArg (fun b=>Ending.returned (.bool b)) (C0m _) | exact congrArg (fun b=>Ending.returned (.bool b)) (D0w _)
def Pt.Dp:Nat→Pt→Prop
 | d,.nd l r=>d<256∧l.Dp (d+1)∧r.Dp (d+1)
 | _,_=>True
def Pt.get (k:List UInt8):Nat→Pt→List UInt8×Bool×Nat
 | _,.e=>(z8 32,false,0)
 | _,.lf k' v=>if k'=k then (v,true,0) else (z8 32,false,0)
 | _,.hd _=>(z8 32,false,100)
 | d,.nd l r=>if I6 k d then r.get k (d+1) else l.get k (d+1)
def C9d (x:List UInt8×Bool×Nat):Value:=.tuple #[A8 x.1,.bool x.2.1,.int .i64 (x.2.2:Int)]
theorem C8l (k:List UInt8) (hk:k.length=32) (p:Pt) (hw:p.Wf) (hd:p.Dp 0) (w:World) :
 Calls Tryz.prog 100 #[.agg #[p.val],A8 k] w fun e w'=>e=.returned (C9d (p.get k 0))∧Below w.heap.size w w':=by
 go_enter Tryz.func100,Tryz.ntmps100;go_wp2_with fail;obtain⟨W0,aE⟩:∃x,x=((w.alloc (Obj.cells #[p.val] 122)).alloc (Obj.cells (c8 k).toArray 35)).alloc (Obj.cells (c8 (z8 32)).toArray 35):=⟨_,rfl⟩;rw[←aE];have B0:Below w.heap.size w W0:=by rw[aE];exact (((Below.refl _ _).alloc (Nat.le_refl _) _).alloc (by simp) _).alloc (by simp;omega) _
 have K0:Bk W0 (w.heap.size+1) 35 (c8 k):=by rw[aE];exact (by simpa using Bk.new (w.alloc (Obj.cells #[p.val] 122)) 35 (c8 k):Bk _ _ _ _).alloc _
 have R0:Bk W0 (w.heap.size+1+1) 35 (c8 (z8 32)):=by rw[aE];simpa using Bk.new ((w.alloc (Obj.cells #[p.val] 122)).alloc (Obj.cells (c8 k).toArray 35)) 35 (c8 (z8 32))
 clear aE;have z0:=R0.lt;go_loopw [7,8] (fun n d wr=>∃(q:Pt) (i:Nat),n=q.val∧d=.int .i64 (i:Int)∧i≤256∧q.Wf∧q.Dp i∧p.get k 0=q.get k i∧Below W0.heap.size W0 wr) (fun _ d _=>257-(intOf d).toNat)
 case atStart=>exact ⟨p,0,rfl,rfl,by omega,hw,hd,rfl,Below.refl _ _⟩
 case round=>
  clear hw hd;obtain⟨q,i,rfl,rfl,hi,hw,hd,aF,Br⟩:=hrel;have aA:=Lib.hid aF;clear aF;have Kr:=K0.below Br (by omega);have Rr:=R0.below Br z0;have BB:=C1 B0 Br B0.size;have aL:D9 wr ⟨w.heap.size+1,0,none⟩ 32=some (c8 k):=by have:=Kr.rows;rwa [C6,hk]at this
  have aJ:E7 wr ⟨w.heap.size+1+1,0,none⟩ 32=true:=Rr.can (by simp);cases q with
  | e=>
   dsimp only[Pt.val];go_wp2_with fail;refine bodyPost_ret (X6 rfl (H9.row (Rr.puts (vs:=c8 (z8 32)) (by simp)) rfl _ Tryz.underlying35 rfl (by simp[I8])) (H9.tmp rfl) (H9.tmp rfl)) rfl ⟨?_,C0 BB (by simp;omega) _⟩;rw[aA.out];rfl
  | hd h=>
   have aM:h.length=32:=hw;obtain⟨W,hW⟩:∃y,y=C4 (wr.alloc (Obj.cells (c8 (z8 32)).toArray 233)) ⟨wr.heap.size,0,none⟩ (c8 h):=⟨_,rfl⟩;have aC:Below wr.heap.size wr W:=by rw[hW];exact C0 ((Below.refl _ _).alloc (Nat.le_refl _) _) (Nat.le_refl _) _
   have R1:=Rr.below aC Rr.lt;have B1:=C1 BB aC BB.size;have aB:E7 W ⟨w.heap.size+1+1,0,none⟩ 32=true:=R1.can (by simp);rw[hW]at aB;dsimp only[Pt.val];go_wp2_with fail;rw[←hW];refine bodyPost_ret (X6 rfl (H9.row (R1.puts (vs:=c8 (z8 32)) (by simp)) rfl _ Tryz.underlying35 rfl (by simp[I8])) (H9.tmp rfl) (H9.tmp rfl)) rfl ⟨?_,C0 B1 (by simp;omega) _⟩;rw[aA.out];rfl
  | lf k' v=>
   have aG:k'.length=32:=hw.1;have hv:v.length=32:=hw.2;have aH:(pb (k',v)).length=64:=Kw.len ⟨aG,hv⟩;obtain⟨W,hW⟩:∃y,y=C4 (wr.alloc (Obj.cells (c8 (z8 64)).toArray 237)) ⟨wr.heap.size,0,none⟩ (c8 (pb (k',v))):=⟨_,rfl⟩;have aC:Below wr.heap.size wr W:=by rw[hW];exact C0 ((Below.refl _ _).alloc (Nat.le_refl _) _) (Nat.le_refl _) _
   have P1:Bk W wr.heap.size 237 (c8 (pb (k',v))):=by rw[hW];exact Bk.fresh wr _ (by simp[aH])
   have R1:=Rr.below aC Rr.lt;have K1:=Kr.below aC Kr.lt;have B1:=C1 BB aC BB.size;have aB:E7 W ⟨w.heap.size+1+1,0,none⟩ 32=true:=R1.can (by simp);have rk:=Mm P1 ⟨aG,hv⟩;have rv:=Sz P1 ⟨aG,hv⟩;have aD:D9 W ⟨w.heap.size+1,0,none⟩ 32=some (c8 k):=by have:=K1.rows;rwa [C6,hk]at this
   rw[hW]at aB rk rv aD;dsimp only[Pt.val];by_cases e:k'=k
   ·subst e;have aK:(k'==k')=true:=by simp
    go_wp2_with fail;rw[←hW];refine bodyPost_ret (X6 rfl (H9.row (R1.puts (vs:=c8 v) (by simp[hv])) rfl _ Tryz.underlying35 rfl (by simp[I8,hv])) (H9.tmp rfl) (H9.tmp rfl)) rfl ⟨?_,C0 B1 (by simp;omega) _⟩;rw[aA.out];simp only[Pt.get,if_true];rfl
   ·have aK:(k'==k)=false:=by simp[e]
    go_wp2_with fail;rw[←hW];refine bodyPost_ret (X6 rfl (H9.row (R1.puts (vs:=c8 (z8 32)) (by simp)) rfl _ Tryz.underlying35 rfl (by simp[I8])) (H9.tmp rfl) (H9.tmp rfl)) rfl ⟨?_,C0 B1 (by simp;omega) _⟩;rw[aA.out];simp only[Pt.get,if_neg e];rfl
  | nd l r=>
   obtain⟨W,hW⟩:∃y,y=wr.alloc (Obj.cells #[l.val,r.val] 244):=⟨_,rfl⟩;have aC:Below wr.heap.size wr W:=by rw[hW];exact (Below.refl _ _).alloc (Nat.le_refl _) _
   have P1:Bk W wr.heap.size 244 [l.val,r.val]:=by rw[hW];exact Bk.new wr _ [l.val,r.val]
   have K1:=Kr.below aC Kr.lt;have aD:D9 W ⟨w.heap.size+1,0,none⟩ 32=some (c8 k):=by have:=K1.rows;rwa [C6,hk]at this
   have c0:W.cell? ⟨wr.heap.size,0,none⟩=some l.val:=P1.at_ rfl;have c1:W.cell? ⟨wr.heap.size,1,none⟩=some r.val:=P1.at_ rfl;rw[hW]at aD c0 c1;dsimp only[Pt.val];go_wp2_with fail;rw[←hW];clear c0 c1 aD;refine (Mi k i hk hd.1 W).mono ?_;rintro e W2 ⟨rfl,h2⟩;have P2:=P1.below h2 P1.lt;have aI:Below W0.heap.size W0 W2:=(Br.trans (aC.mono Br.size)).trans (h2.mono (by have:=Br.size;have:=aC.size;omega));have c1:W2.cell? ⟨wr.heap.size,1,none⟩=some r.val:=P2.at_ rfl;have aN:=hd.1;cases hbit:I6 k i
   ·go_wp2_with fail;go_roundw;case rel=>exact ⟨l,i+1,rfl,by go_num,by omega,hw.1,hd.2.1,by rw[aA.out];simp only[Pt.get,hbit];rfl,aI⟩
    case measure=>simp[intOf];omega
   ·go_wp2_with fail;go_roundw;case rel=>exact ⟨r,i+1,rfl,by go_num,by omega,hw.2,hd.2.2,by rw[aA.out];simp only[Pt.get,hbit];rfl,aI⟩
    case measure=>simp[intOf];omega
section
def Pt.Ok:Nat→(Nat→Bool)→Pt→Prop
 | _,_,.e=>True
 | d,P,.lf k v=>k.length=32∧v.length=32∧∀i,i<d→I6 k i=P i
 | d,P,.nd l r=>d<256∧l.Ok (d+1) (Xp P d false)∧r.Ok (d+1) (Xp P d true)
 | _,_,.hd h=>h.length=32
theorem Pt.Ok.wf:∀ {p:Pt} {d:Nat} {P:Nat→Bool},p.Ok d P→p.Wf
 | .e,_,_,_=>trivial
 | .lf _ _,_,_,h=>⟨h.1,h.2.1⟩
 | .nd _ _,_,_,h=>⟨h.2.1.wf,h.2.2.wf⟩
 | .hd _,_,_,h=>h
theorem Pt.Ok.dp:∀ {p:Pt} {d:Nat} {P:Nat→Bool},p.Ok d P→p.Dp d
 | .e,_,_,_=>trivial
 | .lf _ _,_,_,h=>trivial
 | .nd _ _,_,_,h=>⟨h.1,h.2.1.dp,h.2.2.dp⟩
 | .hd _,_,_,h=>trivial
section
variable (k v : List UInt8) (hk : k.length = 32) (hv : v.length = 32) (d : Nat) (w : World)
include hk hv
end
theorem Pt.form:∀p:Pt,p.val=.nilIface∨∃t x,p.val=.iface t x
 | .e=>.inl rfl
 | .lf _ _=>.inr ⟨_,_,rfl⟩
 | .nd _ _=>.inr ⟨_,_,rfl⟩
 | .hd _=>.inr ⟨_,_,rfl⟩
end
def Tr.cut:Tr→List (List UInt8)→Nat→Pt
 | .e,_,_=>.e
 | .lf k v,ks,_=>if ks.isEmpty then .hd (Tr.lf k v).root else .lf k v
 | .nd l r,ks,d=>if ks.isEmpty then .hd (Tr.nd l r).root else .nd (l.cut (ks.filter fun x=>!I6 x d) (d+1)) (r.cut (ks.filter fun x=>I6 x d) (d+1))
def Ov:Pt→Tr→Prop
 | .e,.e=>True
 | .lf k v,.lf k' v'=>k=k'∧v=v'
 | .nd l r,.nd l' r'=>Ov l l'∧Ov r r'
 | .hd h,t=>h=t.root
 | _,_=>False
def Pt.knows (k:List UInt8):Nat→Pt→Prop
 | _,.hd _=>False
 | d,.nd l r=>if I6 k d then r.knows k (d+1) else l.knows k (d+1)
 | _,_=>True
theorem Ov.root:∀ {p:Pt} {t:Tr},Ov p t→p.root=t.root
 | .e,.e,_=>rfl
 | .lf _ _,.lf _ _,h=>by obtain⟨rfl,rfl⟩:=h;rfl
 | .nd _ _,.nd _ _,h=>by simp only[Pt.root,Tr.root];rw[Ov.root h.1,Ov.root h.2]
 | .hd h,t,e=>by cases t<;>exact e
 | .e,.lf _ _,h=>h.elim
 | .e,.nd _ _,h=>h.elim
 | .lf _ _,.e,h=>h.elim
 | .lf _ _,.nd _ _,h=>h.elim
 | .nd _ _,.e,h=>h.elim
 | .nd _ _,.lf _ _,h=>h.elim
theorem Ov.ok:∀ {p:Pt} {t:Tr} {d:Nat} {P:Nat→Bool},Ov p t→Ok d P t→p.Ok d P
 | .e,.e,_,_,_,_=>trivial
 | .lf _ _,.lf _ _,_,_,h,ok=>by obtain⟨rfl,rfl⟩:=h;exact ok
 | .nd _ _,.nd _ _,_,_,h,ok=>⟨ok.1,Ov.ok h.1 ok.2.2.1,Ov.ok h.2 ok.2.2.2⟩
 | .hd h,t,_,_,e,_=>by have e':h=t.root:=Ov.root (p:=.hd h) e;subst e';exact t.root_length
 | .e,.lf _ _,_,_,h,_=>h.elim
 | .e,.nd _ _,_,_,h,_=>h.elim
 | .lf _ _,.e,_,_,h,_=>h.elim
 | .lf _ _,.nd _ _,_,_,h,_=>h.elim
 | .nd _ _,.e,_,_,h,_=>h.elim
 | .nd _ _,.lf _ _,_,_,h,_=>h.elim
theorem Zh:∀(t:Tr) (ks:List (List UInt8)) (d:Nat),Ov (t.cut ks d) t
 | .e,_,_=>trivial
 | .lf k v,ks,d=>by
  by_cases h:ks.isEmpty=true<;>simp only[Tr.cut,h,if_true,if_false,Bool.false_eq_true]
  ·exact rfl
  ·exact ⟨rfl,rfl⟩
 | .nd l r,ks,d=>by
  by_cases h:ks.isEmpty=true<;>simp only[Tr.cut,h,if_true,if_false,Bool.false_eq_true]
  ·exact rfl
  ·exact ⟨Zh l _ _,Zh r _ _⟩
theorem Vm {k:List UInt8}:∀(t:Tr) (ks:List (List UInt8)) (d:Nat),k∈ks→(t.cut ks d).knows k d
 | .e,_,_,_=>trivial
 | .lf _ _,ks,d,hk=>by
  have h:ks.isEmpty=false:=by cases ks with | nil=>cases hk | cons _ _=>rfl
  simp only[Tr.cut,h,if_false,Bool.false_eq_true];trivial
 | .nd l r,ks,d,hk=>by
  have h:ks.isEmpty=false:=by cases ks with | nil=>cases hk | cons _ _=>rfl
  simp only[Tr.cut,h,if_false,Bool.false_eq_true,Pt.knows];by_cases hb:I6 k d=true
  ·simp only[hb,if_true];exact Vm r _ _ (List.mem_filter.2 ⟨hk,hb⟩)
  ·simp only[hb,if_false,Bool.false_eq_true];exact Vm l _ _ (List.mem_filter.2 ⟨hk,by simpa using hb⟩)
def Uo:Option (List UInt8)→List UInt8×Bool×Nat
 | some v=>(v,true,0)
 | none=>(z8 32,false,0)
theorem D6g (k:List UInt8) (d:Nat) (l r:Tr):(Tr.nd l r).look k d=if I6 k d then r.look k (d+1) else l.look k (d+1):=by
 unfold Tr.look;by_cases hb:I6 k d=true<;>simp only[Tr.lead,hb,if_true,if_false,Bool.false_eq_true]
theorem A0n {k:List UInt8}:∀ {p:Pt} {t:Tr} {d:Nat},Ov p t→p.knows k d→p.get k d=Uo (t.look k d)
 | .e,.e,_,_,_=>rfl
 | .lf k' v,.lf _ _,_,h,_=>by
  obtain⟨rfl,rfl⟩:=h;simp only[Pt.get,Tr.look,Tr.lead];by_cases e:k'=k<;>simp[e,Uo]
 | .nd l r,.nd l' r',d,h,hk=>by
  rw[D6g];simp only[Pt.get,Pt.knows]at hk ⊢;by_cases hb:I6 k d=true
  ·simp only[hb,if_true]at hk ⊢;exact A0n h.2 hk
  ·simp only[hb,if_false,Bool.false_eq_true]at hk ⊢;exact A0n h.1 hk
 | .hd h,_,_,_,hk=>hk.elim
 | .e,.lf _ _,_,h,_=>h.elim
 | .e,.nd _ _,_,h,_=>h.elim
 | .lf _ _,.e,_,h,_=>h.elim
 | .lf _ _,.nd _ _,_,h,_=>h.elim
 | .nd _ _,.e,_,h,_=>h.elim
 | .nd _ _,.lf _ _,_,h,_=>h.elim
def Pt.isE:Pt→Bool | .e=>true | _=>false
def Pt.isLf:Pt→Bool | .lf _ _=>true | _=>false
def ill (l r:Pt):Bool:=l.isE&&(r.isE||r.isLf)||r.isE&&l.isLf
def Pt.Tight:Pt→Prop
 | .nd l r=>ill l r=false∧l.Tight∧r.Tight
 | _=>True
theorem Ov.tight:∀ {p:Pt} {t:Tr} {d:Nat} {P:Nat→Bool},Ov p t→Ok d P t→p.Tight
 | .e,.e,_,_,_,_=>trivial
 | .lf _ _,.lf _ _,_,_,h,ok=>trivial
 | .nd l r,.nd l' r',_,_,h,ok=>by
  refine ⟨?_,Ov.tight h.1 ok.2.2.1,Ov.tight h.2 ok.2.2.2⟩;have hlen:=ok.2.1;have h1:=h.1;have h2:=h.2;clear h ok;cases l<;>cases r<;>cases l'<;>cases r'<;>first | rfl | exact h1.elim | exact h2.elim | (simp[Tr.len]at hlen)
 | .hd h,t,_,_,e,_=>trivial
 | .e,.lf _ _,_,_,h,_=>h.elim
 | .e,.nd _ _,_,_,h,_=>h.elim
 | .lf _ _,.e,_,_,h,_=>h.elim
 | .lf _ _,.nd _ _,_,_,h,_=>h.elim
 | .nd _ _,.e,_,_,h,_=>h.elim
 | .nd _ _,.lf _ _,_,_,h,_=>h.elim
def chk (way:List Bool) (key:List UInt8):Bool:=(List.range way.length).all fun i=>I6 key i==way.getD i false
def rd1 (rec:List Bool→List UInt8→Except Nat (Pt×List UInt8)) (way:List Bool):List UInt8→Except Nat (Pt×List UInt8)
 | []=>.error 10
 | k::b=>
  if k=0 then .ok (.e,b)
  else if k=1 then if b.length<64 then .error 10 else if chk way (b.take 32) then .ok (.lf (b.take 32) ((b.drop 32).take 32),b.drop 64) else .error 13
  else if k=2 then match rec (way++[false]) b with
   | .error e=>.error e
   | .ok (l,b1)=>match rec (way++[true]) b1 with
    | .error e=>.error e
    | .ok (r,b2)=>if ill l r then .error 13 else .ok (.nd l r,b2)
  else if k=3 then if b.length<32 then .error 10 else .ok (.hd (b.take 32),b.drop 32)
  else .error 13
def rd:Nat→List Bool→List UInt8→Except Nat (Pt×List UInt8)
 | 0=>rd1 fun _ _=>.error 13
 | f+1=>rd1 (rd f)
def Kq (way:List Bool):Nat→Bool:=fun i=>way.getD i false
theorem Yg {way:List Bool} {key:List UInt8}:chk way key=true↔∀i,i<way.length→I6 key i=Kq way i:=by simp[chk,Kq]
theorem A4e {d:Nat} {P Q:Nat→Bool} (b:Bool) (h:∀i,i<d→P i=Q i):∀i,i<d+1→Xp P d b i=Xp Q d b i:=fun i hi=>by
 unfold Xp;split
 ·rfl
 ·exact h i (by omega)
theorem Pt.Ok.congr:∀ {p:Pt} {d:Nat} {P Q:Nat→Bool},p.Ok d P→(∀i,i<d→P i=Q i)→p.Ok d Q
 | .e,_,_,_,_,_=>trivial
 | .lf _ _,_,_,_,h,he=>⟨h.1,h.2.1,fun i hi=>(h.2.2 i hi).trans (he i hi)⟩
 | .nd _ _,d,P,Q,h,he=>⟨h.1,h.2.1.congr (A4e false he),h.2.2.congr (A4e true he)⟩
 | .hd _,_,_,_,h,_=>h
theorem Pf (way:List Bool) (b:Bool) (i:Nat) (hi:i<way.length+1):Kq (way++[b]) i=Xp (Kq way) way.length b i:=by
 unfold Kq Xp;split
 ·rename_i e;subst e;simp[List.getD_eq_getElem?_getD]
 ·rename_i e
  have:i<way.length:=by omega
  simp[List.getD_eq_getElem?_getD,List.getElem?_append_left this]
theorem D0j:∀(f:Nat) (way:List Bool) (b:List UInt8) (p:Pt) (rest:List UInt8),f+way.length=256→rd f way b=.ok (p,rest)→b=p.bytes++rest∧p.Ok way.length (Kq way)∧p.Tight:=by
 intro f;induction f with
 | zero=>
  intro way b p rest hf h;cases b with
  | nil=>cases h
  | cons k b=>
   simp only[rd,rd1]at h;split at h
   ·injection h with h;injection h with h1 h2;subst h1 h2;rename_i e;subst e;exact ⟨rfl,trivial,trivial⟩
   split at h
   ·split at h
    ·cases h
    split at h
    ·rename_i hl hc
     injection h with h;injection h with h1 h2;subst h1 h2;rename_i e0 e;subst e;refine ⟨?_,⟨by simp;omega,by simp;omega,Yg.1 hc⟩,trivial⟩;have e1:b.drop 64=(b.drop 32).drop 32:=by rw[List.drop_drop]
     simp only[Pt.bytes,List.cons_append,List.nil_append,List.append_assoc];rw[e1,List.take_append_drop,List.take_append_drop]
    ·cases h
   split at h
   ·cases h
   split at h
   ·split at h
    ·cases h
    ·rename_i hl
     injection h with h;injection h with h1 h2;subst h1 h2;rename_i e;subst e;refine ⟨?_,(by simp[Pt.Ok];omega),trivial⟩;simp only[Pt.bytes,List.cons_append,List.nil_append];rw[List.take_append_drop]
   ·cases h
 | succ f ih=>
  intro way b p rest hf h;cases b with
  | nil=>cases h
  | cons k b=>
   simp only[rd,rd1]at h;split at h
   ·injection h with h;injection h with h1 h2;subst h1 h2;rename_i e;subst e;exact ⟨rfl,trivial,trivial⟩
   split at h
   ·split at h
    ·cases h
    split at h
    ·rename_i hl hc
     injection h with h;injection h with h1 h2;subst h1 h2;rename_i e0 e;subst e;refine ⟨?_,⟨by simp;omega,by simp;omega,Yg.1 hc⟩,trivial⟩;have e1:b.drop 64=(b.drop 32).drop 32:=by rw[List.drop_drop]
     simp only[Pt.bytes,List.cons_append,List.nil_append,List.append_assoc];rw[e1,List.take_append_drop,List.take_append_drop]
    ·cases h
   split at h
   ·rename_i e;subst e
    split at h
    ·cases h
    ·rename_i l b1 h1
     split at h
     ·cases h
     ·rename_i r b2 h2
      split at h
      ·cases h
      ·rename_i hi
       injection h with h;injection h with h3 h4;subst h3 h4;obtain⟨e1,o1,t1⟩:=ih _ _ _ _ (by simp;omega) h1;obtain⟨e2,o2,t2⟩:=ih _ _ _ _ (by simp;omega) h2;simp only[List.length_append,List.length_cons,List.length_nil,Nat.zero_add]at o1 o2;refine ⟨by rw[e1,e2];simp[Pt.bytes],⟨by omega,o1.congr fun i hi=>Pf _ _ i hi,o2.congr fun i hi=>Pf _ _ i hi⟩,by simpa using hi,t1,t2⟩
   split at h
   ·split at h
    ·cases h
    ·rename_i hl
     injection h with h;injection h with h1 h2;subst h1 h2;rename_i e;subst e;refine ⟨?_,(by simp[Pt.Ok];omega),trivial⟩;simp only[Pt.bytes,List.cons_append,List.nil_append];rw[List.take_append_drop]
   ·cases h
theorem B2w {rec:List Bool→List UInt8→Except Nat (Pt×List UInt8)} {way:List Bool} {k v rest:List UInt8} (hk:k.length=32) (hv:v.length=32) (h:chk way k=true):rd1 rec way ((Pt.lf k v).bytes++rest)=.ok (.lf k v,rest):=by
 have e0:(Pt.lf k v).bytes++rest=1::(k++(v++rest)):=by simp[Pt.bytes]
 rw[e0];have e1:(k++(v++rest)).take 32=k:=by rw[←hk,List.take_left]
 have e2:(k++(v++rest)).drop 32=v++rest:=by rw[←hk,List.drop_left]
 have e3:(v++rest).take 32=v:=by rw[←hv,List.take_left]
 have e4:(k++(v++rest)).drop 64=rest:=by rw[show (64:Nat)=32+32 from rfl,←List.drop_drop,e2,←hv,List.drop_left]
 have e5:¬ (k++(v++rest)).length<64:=by simp[hk,hv];omega
 simp only[rd1,e1,e2,e3,e4,e5,h,if_false,if_true];rfl
theorem A1a {rec:List Bool→List UInt8→Except Nat (Pt×List UInt8)} {way:List Bool} {h rest:List UInt8} (hh:h.length=32):rd1 rec way ((Pt.hd h).bytes++rest)=.ok (.hd h,rest):=by
 have e0:(Pt.hd h).bytes++rest=3::(h++rest):=by simp[Pt.bytes]
 rw[e0];have e1:(h++rest).take 32=h:=by rw[←hh,List.take_left]
 have e2:(h++rest).drop 32=rest:=by rw[←hh,List.drop_left]
 have e5:¬ (h++rest).length<32:=by simp[hh]
 simp only[rd1,e1,e2,e5,if_false,if_true];rfl
theorem B3y:∀(f:Nat) (way:List Bool) (p:Pt) (rest:List UInt8),f+way.length=256→p.Ok way.length (Kq way)→p.Tight→rd f way (p.bytes++rest)=.ok (p,rest):=by
 intro f;induction f with
 | zero=>
  intro way p rest hf ok ht;cases p with
  | e=>rfl
  | lf k v=>exact B2w ok.1 ok.2.1 (Yg.2 ok.2.2)
  | hd h=>exact A1a ok
  | nd l r=>exact absurd ok.1 (by omega)
 | succ f ih=>
  intro way p rest hf ok ht;cases p with
  | e=>rfl
  | lf k v=>exact B2w ok.1 ok.2.1 (Yg.2 ok.2.2)
  | hd h=>exact A1a ok
  | nd l r=>
   have h1:=ih (way++[false]) l (r.bytes++rest) (by simp;omega) (by simp only[List.length_append,List.length_cons,List.length_nil,Nat.zero_add];exact ok.2.1.congr fun i hi=>(Pf _ _ i hi).symm) ht.2.1;have h2:=ih (way++[true]) r rest (by simp;omega) (by simp only[List.length_append,List.length_cons,List.length_nil,Nat.zero_add];exact ok.2.2.congr fun i hi=>(Pf _ _ i hi).symm) ht.2.2;have e0:(Pt.nd l r).bytes++rest=2::(l.bytes++(r.bytes++rest)):=by simp[Pt.bytes]
   rw[e0];simp only[rd,rd1,h1,h2,ht.1];rfl
theorem D1f {f:Nat} {way:List Bool} {b:List UInt8} {e:Nat}:rd f way b=.error e→e=10∨e=13:=by
 induction f generalizing way b e with
 | zero=>
  intro h;cases b with
  | nil=>injection h with h;exact .inl h.symm
  | cons k b=>
   simp only[rd,rd1]at h;repeat' (split at h)
   all_goals first | cases h;done | (injection h with h;subst h;first | exact .inl rfl | exact .inr rfl)
 | succ f ih=>
  intro h;cases b with
  | nil=>injection h with h;exact .inl h.symm
  | cons k b=>
   simp only[rd,rd1]at h;split at h
   ·cases h
   split at h
   ·split at h
    ·injection h with h;exact .inl h.symm
    ·split at h
     ·cases h
     ·injection h with h;exact .inr h.symm
   split at h
   ·split at h
    ·rename_i h1;injection h with h;subst h;exact ih h1
    ·split at h
     ·rename_i h1;injection h with h;subst h;exact ih h1
     ·split at h
      ·injection h with h;exact .inr h.symm
      ·cases h
   split at h
   ·split at h
    ·injection h with h;exact .inl h.symm
    ·cases h
   ·injection h with h;exact .inr h.symm
section
def RH (w:World) (g:Nat) (L:List (List UInt8)) (tl:List Value):Prop:=(∀k∈L,k.length=32)∧Bk w g 35 (c8 L.flatten++tl)
section
variable {w w' : World} {g : Nat} {L : List (List UInt8)} {tl : List Value}
theorem RH.lt (h:RH w g L tl):g<w.heap.size:=h.2.lt
theorem RH.below {B:Nat} (h:RH w g L tl) (hb:Below B w w') (hg:g<B):RH w' g L tl:=⟨h.1,h.2.below hb hg⟩
theorem RH.row (h:RH w g L tl) {i:Nat} {k:List UInt8} (hk:L[i]?=some k):D9 w ⟨g,i*32,none⟩ 32=some (c8 k):=by
 have hi:i<L.length:=(List.getElem?_eq_some_iff.1 hk).1;have hl:=T6 h.1;rw[h.2.row (by simp[hl];omega)];congr 1;have aA:=A9e h.1 hk;rw[List.drop_append_of_le_length (by simp[hl];omega),List.take_append_of_le_length (by simp[hl];omega)];rw[←aA];simp[c8,List.map_drop,List.map_take]
theorem RH.can (h:RH w g L tl) {i:Nat} (hi:i<L.length):E7 w ⟨g,i*32,none⟩ 32=true:=h.2.can (by simp[T6 h.1];omega)
theorem RH.can_to (h:RH w g L tl) {i n:Nat} (hi:i+n≤L.length):E7 w ⟨g,i*32,none⟩ (n*32)=true:=h.2.can (by simp[T6 h.1];omega)
theorem C3o:∀ {L:List (List UInt8)} (_:∀k∈L,k.length=32) {i:Nat} (x:List UInt8),x.length=32→i<L.length→L.flatten.take (i*32)++x++L.flatten.drop (i*32+32)=(L.set i x).flatten:=by
 intro L;induction L with
 | nil=>intro _ i x _ hi;simp at hi
 | cons q L ih=>
  intro h i x hx hi;have hq:=h q (by simp);cases i with
  | zero=>simp[←hq,List.drop_left]
  | succ i=>
   have:=ih (fun k hk=>h k (by simp[hk])) (i:=i) x hx (by simpa using hi);simp only[List.flatten_cons,List.set_cons_succ];rw[←this];have e1:(i+1)*32=q.length+i*32:=by omega
   have e2:(i+1)*32+32=q.length+(i*32+32):=by omega
   rw[e2,e1,List.take_append,List.drop_append];simp[List.take_of_length_le,List.drop_eq_nil_of_le]
theorem RH.set (h:RH w g L tl) {i:Nat} {x:List UInt8} (hx:x.length=32) (hi:i<L.length):RH (C4 w ⟨g,i*32,none⟩ (c8 x)) g (L.set i x) tl:=by
 refine ⟨fun k hk=>?_,?_⟩
 ·rcases List.mem_or_eq_of_mem_set hk with h1 | rfl
  ·exact h.1 k h1
  ·exact hx
 ·have hl:=T6 h.1;have:=h.2.put (o:=i*32) (vs:=c8 x) (by simp[hl,hx];omega);have e:(c8 L.flatten++tl).take (i*32)++c8 x++(c8 L.flatten++tl).drop (i*32+(c8 x).length)=c8 (L.set i x).flatten++tl:=by rw[←C3o h.1 x hx hi,C6,hx,List.take_append_of_le_length (by simp[hl];omega),List.drop_append_of_le_length (by simp[hl];omega)];simp[c8,List.map_drop,List.map_take]
  rw[e]at this;exact this
theorem X4 (w:World) (g o:Nat) (vs:List Value):w.grownBy (C4 w ⟨g,o,none⟩ vs) (some g):=by
 have h:=C0 (a:=⟨g,o,none⟩) (Below.refl 0 w) (Nat.zero_le _) vs;exact ⟨h.os,h.tape,h.output,h.size,fun k hk hne=>T7 _ _ _ _ _ (fun e=>hne (by rw[e]))⟩
theorem c8z (n:Nat):c8 (z8 n)=List.replicate n (v8 0):=by simp[c8,z8]
theorem RH.clear (h:RH w g L tl) {i n:Nat} (hi:i+n=L.length):∃L',L'.take i=L.take i∧L'.length=L.length∧RH (C4 w ⟨g,i*32,none⟩ (c8 (z8 (n*32)))) g L' tl:=by
 induction n generalizing w L i with
 | zero=>exact ⟨L,rfl,rfl,by simpa [z8,c8,C4,World.setCells] using h⟩
 | succ n ih=>
  have h1:=h.set (i:=i) (x:=z8 32) (by simp) (by omega);obtain⟨L',e1,e2,h2⟩:=ih h1 (i:=i+1) (by simp;omega);refine ⟨L',?_,by simpa using e2,?_⟩
  ·have:=congrArg (List.take i) e1;rw[List.take_take,List.take_take]at this;simpa [List.take_set_of_le] using this
  ·have e:C4 w ⟨g,i*32,none⟩ (c8 (z8 ((n+1)*32)))=C4 (C4 w ⟨g,i*32,none⟩ (c8 (z8 32))) ⟨g,(i+1)*32,none⟩ (c8 (z8 (n*32))):=by
    have hz:c8 (z8 ((n+1)*32))=c8 (z8 32)++c8 (z8 (n*32)):=by rw[c8z,c8z,c8z,show (n+1)*32=32+n*32 by omega];exact (List.replicate_append_replicate).symm
    have hs:∀(a b:List Value) (o:Nat) (w:World),w.setCells g o (a++b)=(w.setCells g o a).setCells g (o+a.length) b:=by
     intro a;induction a with
     | nil=>intro b o w;rfl
     | cons v a ih=>intro b o w;simp only[List.cons_append,World.setCells,ih,List.length_cons];rw[show o+1+a.length=o+(a.length+1) by omega]
    unfold C4;rw[hz,hs];simp[Nat.add_mul]
   rw[e];exact h2
end
theorem A2w {w:World} {g o n c:Nat} (ty:TypeId) (h:E7 w ⟨g,o,none⟩ (n*32)=true):(Builtin.clear_ #[26] ty #[.slice (some ⟨g,o,none⟩) n c]).run Tryz.prog w=.ok (.tuple #[]) (C4 w ⟨g,o,none⟩ (c8 (z8 (n*32)))):=by
 have hc:=Jp.1 h;obtain⟨z,aA⟩:∃z,z=A8 (z8 32):=⟨_,rfl⟩;have aB:z.cells=(List.replicate 32 (v8 0)).toArray:=by rw[aA];exact congrArg List.toArray (c8z 32)
 have hz:(Builtin.zeroCells z.cells n).toList=c8 (z8 (n*32)):=by
  rw[c8z];apply List.ext_getElem
  ·simp[Builtin.zeroCells,aB]
  ·intro i h1 h2;have aD:i % 32<32:=Nat.mod_lt _ (by omega);simp[Builtin.zeroCells,aB,getElem!_pos,aD,-List.reduceReplicate]
 have aC:=run_storeCells_cells (P:=Tryz.prog) g o (c8 (z8 (n*32))) 0 w (fun j hj=>by simpa using (hc j (by simpa using hj)).1) (fun j hj=>by simpa using (hc j (by simpa using hj)).2) (by intro u hu;obtain⟨x,_,rfl⟩:=List.mem_map.1 hu;rfl);simp only[Nat.add_zero]at aC;cases n with
 | zero=>simp[Builtin.clear_,run_underlying Tryz.underlying26,z8,c8,C4,World.setCells]
 | succ n=>
  have aE:∀w,(zeroValue 35).run Tryz.prog w=.ok z w:=fun w=>by rw[aA];kernel_rfl
  simp[Builtin.clear_,run_underlying Tryz.underlying26,aE,hz,aC,C4]
section
variable (c : Nat) (la : Value) (p : List UInt8 → Bool) (eg : ∀ args w, (callFunc c args).run Tryz.prog w = .ok (.enter c args) w) (base : Nat) (w0 : World) (HP : ∀ W x, x.length = 32 → Below base w0 W → Calls Tryz.prog c #[A8 x, la] W fun e w' => e = .returned (.bool (p x)) ∧ Below W.heap.size W w')
include eg HP
theorem D5w (g cap:Nat) (ks:List (List UInt8)) (tl:List Value) (hn:ks.length≤1099511627776) (w:World) (hbs:base≤w.heap.size) (h0:Below base w0 w) (hR:RH w g ks tl) :
 Calls Tryz.prog 190 #[.slice (some ⟨g,0,none⟩) ks.length cap,.func (.func c) #[] #[la]] w fun e w'=>∃r:Int,e=.returned (.int .i64 r)∧Below w.heap.size w w'∧
  ((r=-1∧∀k∈ks,p k=false)∨∃(i:Nat) (k:List UInt8),r=(i:Int)∧ks[i]?=some k∧p k=true∧∀k∈ks.take i,p k=false):=by
 have aB:=Lib.hid HP;clear HP;go_enter Tryz.func190,Tryz.ntmps190;go_wp2_with fail;go_loopw [8] (fun t wr=>∃i:Nat,i≤ks.length∧t=.int .i64 (i:Int)∧(∀k∈ks.take i,p k=false)∧Below w.heap.size w wr) (fun t _=>ks.length-(intOf t).toNat)
 case atStart=>exact ⟨0,by omega,rfl,by simp,Below.refl _ _⟩
 case round=>
  obtain⟨i,hi,rfl,he,hb⟩:=hrel;by_cases hlt:i<ks.length
  ·obtain⟨k,hk⟩:∃k,ks[i]?=some k:=⟨_,List.getElem?_eq_getElem hlt⟩;have aC:=(hR.below hb hR.lt).row hk;have aD:=hR.1 k (List.mem_of_getElem? hk);have aA:=aB.out wr k aD (h0.trans (hb.mono hbs));have HK:=Lib.hid hk;have HE:=Lib.hid he;clear hk he;cases hq:p k with
   | true=>
    rw[hq]at aA;go_wp2_with (go_at_fn c;refine aA.mono ?_;rintro e w' ⟨rfl,hb'⟩);go_ret;exact ⟨_,rfl,hb.trans (hb'.mono hb.size),.inr ⟨i,k,rfl,HK.out,hq,HE.out⟩⟩
   | false=>
    rw[hq]at aA;go_wp2_with (go_at_fn c;refine aA.mono ?_;rintro e w' ⟨rfl,hb'⟩);go_roundw;case rel=>
     refine ⟨i+1,by omega,by go_num,fun x hx=>?_,hb.trans (hb'.mono hb.size)⟩;rw[Jq HK.out]at hx;rcases List.mem_append.1 hx with hx | hx
     ·exact HE.out x hx
     ·simp at hx;subst hx;exact hq
    case measure=>simp[intOf];omega
  ·obtain rfl:i=ks.length:=by omega
   go_wp2_with fail;go_ret;exact ⟨_,rfl,hb,.inl ⟨rfl,by simpa using he⟩⟩
theorem B8j (g cap:Nat) (ks:List (List UInt8)) (tl:List Value) (hn:ks.length≤1099511627776) (hc1:ks.length≤cap) (hc2:cap≤9223372036854775807) (w:World) (hbs:base≤g) (h0:Below base w0 w) (hR:RH w g ks tl) :
 Calls Tryz.prog 149 #[.slice (some ⟨g,0,none⟩) ks.length cap,.func (.func c) #[] #[la]] w fun e w'=>∃(m:Nat) (L:List (List UInt8)),e=.returned (.slice (some ⟨g,0,none⟩) m cap)∧m=(ks.filter fun k=>!p k).length∧w.grownBy w' (some g)∧RH w' g L tl∧L.length=ks.length∧L.take m=ks.filter fun k=>!p k:=by
 have aP:=hR.lt;have aG:=D5w c la p eg base w0 HP g cap ks tl hn w (by omega) h0 hR;have aX:=Lib.hid HP;have HI:=Lib.hid aG;clear HP aG;go_enter Tryz.func149,Tryz.ntmps149;go_wp2_with fail;refine HI.out.mono ?_;rintro e w1 ⟨r,rfl,aC,hr⟩;clear HI;rcases hr with ⟨rfl,hall⟩ | ⟨i0,k0,rfl,hk0,hp0,hpre⟩
 ·have e:(ks.filter fun k=>!p k)=ks:=List.filter_eq_self.2 fun k hk=>by simp[hall k hk]
  have aJ:w.grownBy w1 (some g):=⟨aC.os,aC.tape,aC.output,aC.size,fun k hk _=>aC.block k hk⟩;go_wp2_with fail;go_ret;exact ⟨ks.length,ks,rfl,by rw[e],aJ,hR.below aC aP,rfl,by rw[e];simp⟩
 ·have aY:i0<ks.length:=(List.getElem?_eq_some_iff.1 hk0).1;have aL:((i0:Int) == -1)=false:=beq_eq_false_iff_ne.2 (by omega);have aQ:Hid (ks.take i0=(ks.take (i0+1)).filter fun k=>!p k):=Lib.hid (by
   rw[Jq hk0,List.filter_append];have:(ks.take i0).filter (fun k=>!p k)=ks.take i0:=List.filter_eq_self.2 fun k hk=>by simp[hpre k hk]
   rw[this];simp[hp0])
  have aR:=hR.below aC aP;have aH:w.grownBy w1 (some g):=⟨aC.os,aC.tape,aC.output,aC.size,fun k hk _=>aC.block k hk⟩;clear hk0 hp0 hpre;go_wp2_with fail;go_loopw [5,6] (fun t5 t6 wr=>∃(i j:Nat) (L:List (List UInt8)),t5=.int .i64 (i:Int)∧t6=.int .i64 (j:Int)∧i<j∧j≤ks.length∧Hid (L.take i=(ks.take j).filter fun k=>!p k)∧Hid (L.drop j=ks.drop j)∧L.length=ks.length∧RH wr g L tl∧w.grownBy wr (some g)) (fun _ t6 _=>ks.length-(intOf t6).toNat)
  case atStart=>exact ⟨i0,i0+1,ks,rfl,by go_num,by omega,by omega,aQ,Lib.hid rfl,rfl,aR,aH⟩
  case round=>
   clear aQ aR aH aC aY aL;obtain⟨i,j,L,rfl,rfl,bE,bF,hT,hD,aS,aE,aM⟩:=hrel;by_cases hlt:j<ks.length
   ·obtain⟨x,hx⟩:∃x,L[j]?=some x:=⟨_,List.getElem?_eq_getElem (by omega)⟩;have aT:Hid (ks[j]?=some x):=Lib.hid (by have:=congrArg (·[0]?) hD.out;simpa [List.getElem?_drop,hx] using this.symm);have aN:=aE.row hx;have aI:=aE.1 x (List.mem_of_getElem? hx);have aD:=aE.can (i:=i) (by omega);have aZ:=aE.lt;obtain⟨wb,aF⟩:∃wb,wb=C4 (wr.alloc (Obj.cells (c8 (z8 32)).toArray 35)) ⟨wr.heap.size,0,none⟩ (c8 x):=⟨_,rfl⟩;have KX:Bk wb wr.heap.size 35 (c8 x):=by rw[aF];exact Bk.fresh wr _ (by simp[aI])
    have BX:Below wr.heap.size wr wb:=by rw[aF];exact C0 ((Below.refl _ _).alloc (Nat.le_refl _) _) (Nat.le_refl _) _
    have bA:Below base w0 wr:=h0.grown aM (by omega) (fun k hk=>by injection hk with hk;omega);have aA:=aX.out wb x aI (bA.trans (BX.mono (by omega)));have HX:=Lib.hid hx;clear hx;have aK:RH wb g L tl:=aE.below BX aZ;have aU:D9 (C4 (wr.alloc (Obj.cells (c8 (z8 32)).toArray 35)) ⟨wr.heap.size,0,none⟩ (c8 x)) ⟨wr.heap.size,0,none⟩ 32=some (c8 x):=by rw[←aF];have:=KX.rows;rwa [C6,aI]at this
    have aJ:w.grownBy wb (some g):=aM.trans ⟨BX.os,BX.tape,BX.output,BX.size,fun k hk _=>BX.block k hk⟩;have aV:Hid (L.drop (j+1)=ks.drop (j+1)):=Lib.hid (by have:=congrArg (List.drop 1) hD.out;simpa [List.drop_drop,Nat.add_comm] using this);cases hq:p x with
    | true=>
     rw[hq]at aA;go_wp2_with fail;rw[←aF];clear aF aU;refine aA.mono ?_;rintro e w' ⟨rfl,aB⟩;go_wp2_with fail;go_roundw;case rel=>exact ⟨i,j+1,L,rfl,by go_num,by omega,by omega,Lib.hid (by rw[Jq aT.out,List.filter_append,hT.out];simp[hq]),aV,aS,aK.below aB aK.lt,aJ.trans ⟨aB.os,aB.tape,aB.output,aB.size,fun k hk _=>aB.block k hk⟩⟩
     case measure=>simp[intOf];omega
    | false=>
     rw[hq]at aA;go_wp2_with fail;rw[←aF];clear aF aU;refine aA.mono ?_;rintro e w' ⟨rfl,aB⟩;have aO:=aK.below aB aK.lt;have bG:D9 w' ⟨wr.heap.size,0,none⟩ 32=some (c8 x):=by have:=(KX.below aB KX.lt).rows;rwa [C6,aI]at this
     have bH:=aO.can (i:=i) (by omega);have bB:w.grownBy w' (some g):=aJ.trans ⟨aB.os,aB.tape,aB.output,aB.size,fun k hk _=>aB.block k hk⟩;have bC:=aO.lt;clear aD aN;go_wp2_with fail;go_roundw;case rel=>
      refine ⟨i+1,j+1,L.set i x,by go_num,by go_num,by omega,by omega,Lib.hid ?_,Lib.hid ?_,by simp[aS],aO.set aI (by omega),bB.trans (X4 _ _ _ _)⟩
      ·rw[Jq aT.out,List.filter_append,←hT.out,Jq (q:=x) (by simp[show i<L.length by omega]),List.take_set_of_le (Nat.le_refl _)];simp[hq]
      ·rw[List.drop_set_of_lt (by omega)];exact aV.out
     case measure=>simp[intOf];omega
   ·obtain rfl:j=ks.length:=by omega
    have aD:=aE.can_to (i:=i) (n:=ks.length-i) (by omega);have bI:∀ty,(Builtin.clear_ #[26] ty #[.slice (some ⟨g,i*32,none⟩) (ks.length-i) (cap-i)]).run Tryz.prog wr=_:=fun ty=>A2w ty aD;obtain⟨L',e1,e2,bD⟩:=aE.clear (i:=i) (n:=ks.length-i) (by omega);have aW:=Lib.hid (show L'.take i=ks.filter fun k=>!p k by rw[e1,hT.out,List.take_length]);clear aD;go_wp2_with fail;go_ret;refine ⟨i,L',rfl,?_,aM.trans (X4 _ _ _ _),bD,by omega,aW.out⟩;rw[←aW.out];simp;omega
end
theorem RH.of_own {w:World} {base:Nat} {A:Option Addr} {n c:Nat} {ks:List (List UInt8)} (h:w.ownsRow base 35 32 (.slice A n c) n (c8 ks.flatten)) (hk:∀k∈ks,k.length=32) (hn:n=ks.length) (hp:0<n):∃g tl,A=some ⟨g,0,none⟩∧base≤g∧RH w g ks tl∧n≤c∧c≤9223372036854775807:=by
 rcases h.2 with ⟨hv,h0⟩ | ⟨g,cap,cur,hv,hbg,hh,hr,hm,hsz,ht⟩
 ·omega
 ·injection hv with h1 h2 h3;subst h1 h3;refine ⟨g,cur.toList.drop (n*32),rfl,hbg,⟨hk,?_⟩,hr,by unfold maxLen at hm;exact hm⟩;have e:c8 ks.flatten++cur.toList.drop (n*32)=cur.toList:=by rw[←ht,List.take_append_drop]
  rw[e];exact hh
theorem Jv (v:Value) (ks:List (List UInt8)) (w:World) (hv:Hs w 0 w.heap.size v ks) (hne:0<ks.length) (hn:ks.length≤1099511627) :
 Calls Tryz.prog 69 #[v] w fun e w'=>∃(g cap:Nat) (tl:List Value),e=.returned (.slice (some ⟨g,0,none⟩) ks.length cap)∧w.heap.size≤g∧RH w' g ks tl∧ks.length≤cap∧cap≤9223372036854775807∧Below w.heap.size w w':=by
 obtain⟨A,c,aD,aN,aO⟩:=hv.form;obtain⟨aA,A',c',aE,_,_,aF⟩:=hv;have hA:A=A':=by rw[aD]at aE;injection aE
 subst hA;subst aD;have aP:A.isNone=false:=by
  rcases aF with h | ⟨g,o,h,_⟩
  ·have:=congrArg List.length h;rw[C6,T6 aA]at this;simp at this;omega
  ·rw[h];rfl
 have hl:=T6 aA;have aB:Rd (w.alloc (.cells #[] 35)) 0 w.heap.size A (c8 ks.flatten):=aF.below ((Below.refl _ _).alloc (Nat.le_refl _) _);have aQ:∀(w:World) (a:Option Addr) (n c n' c':Nat),(binOp .eql 26 (.slice a n c) (.slice none n' c')).run Tryz.prog w=.ok (.bool a.isNone) w:=fun w a n c n' c'=>Lib.run_eql_slice_nil w _ _ a n c n' c' Tryz.underlying26;go_enter Tryz.func69,Tryz.ntmps69;go_wp2_with (at_builtin;refine D1h 26 (A8 (z8 32)) 32 Tryz.underlying26 A3t (by simp[A8,Value.cells]) (by decide) (by decide) rfl _ _ rfl rfl (n:=0) (base:=w.heap.size) (World.ownsRow_made w #[] 0 (Nat.le_refl _) (Nat.zero_le _) (by simp)) A ks.length c rfl (c8 ks.flatten) (by simp[hl]) 0 _ aB (by intro u hu;obtain⟨x,_,rfl⟩:=List.mem_map.1 hu;rfl) (by omega) (by simp) ?_;intro A' c' w' aG aH aC aI aR aJ);go_ret;obtain⟨g,tl,rfl,aK,hR,aL,aM⟩:=RH.of_own (by simpa using aC) aA rfl (by omega);exact ⟨g,c',tl,by simp,aK,hR,aL,aM,((Below.refl _ _).alloc (Nat.le_refl _) _).trans aI⟩
end
theorem D2x {W:World} {base:Nat} {T:TypeId} {v:Value} {n:Nat} {ks:List (List UInt8)} (h:W.ownsRow base T 32 v n (c8 ks.flatten)) (hn:ks.length=n) (hk:∀k∈ks,k.length=32):Hs W base W.heap.size v ks:=by
 obtain⟨A,c,rfl,h1,h2⟩:=Be h;subst hn;exact ⟨hk,A,c,rfl,h1,by unfold maxLen;exact h2,Qt h⟩
theorem Hs.less {w:World} {lo lo' B:Nat} {v:Value} {l:List (List UInt8)} (h:Hs w lo B v l) (hB:lo'≤lo):Hs w lo' B v l:=let ⟨h0,A,c,h1,h2,h3,h4⟩:=h;⟨h0,A,c,h1,h2,h3,h4.less hB⟩
def Ad (w:World) (base:Nat) (v:Value) (ks:List (List UInt8)):Prop:=(∀k∈ks,k.length=32)∧w.ownsRow base 35 32 v ks.length (c8 ks.flatten)
theorem Ad.nil (w:World) (base:Nat):Ad w base (.slice none 0 0) []:=⟨by simp,World.ownsRow_nil w base _ _⟩
theorem Ad.below {w w':World} {base B:Nat} {v:Value} {ks:List (List UInt8)} (h:Ad w base v ks) (hb:Below B w w') (hB:w.heap.size≤B):Ad w' base v ks:=⟨h.1,Iv h.2 hb hB⟩
theorem Ad.hs {w:World} {base:Nat} {v:Value} {ks:List (List UInt8)} (h:Ad w base v ks):Hs w base w.heap.size v ks:=D2x h.2 rfl h.1
theorem Ad.form {w:World} {base:Nat} {v:Value} {ks:List (List UInt8)} (h:Ad w base v ks):∃A c,v=.slice A ks.length c∧ks.length≤c∧c≤9223372036854775807:=Be h.2
section
theorem B7q (w:World):Calls Tryz.prog 69 #[.slice none 0 0] w fun e w'=>e=.returned (.slice none 0 0)∧w=w':=by
 have aA:∀(w:World) (a:Option Addr) (n c n' c':Nat),(binOp .eql 26 (.slice a n c) (.slice none n' c')).run Tryz.prog w=.ok (.bool a.isNone) w:=fun w a n c n' c'=>Lib.run_eql_slice_nil w _ _ a n c n' c' Tryz.underlying26;go_enter Tryz.func69,Tryz.ntmps69;go_wp2;go_ret;exact ⟨rfl,rfl⟩
theorem B2t (v:Value) (ks:List (List UInt8)) (w:World) (hv:Hs w 0 w.heap.size v ks) (hne:0<ks.length) (hn:ks.length≤1099511627) :
 Calls Tryz.prog 69 #[v] w fun e w'=>∃u,e=.returned u∧Ad w' w.heap.size u ks∧Below w.heap.size w w':=by
 obtain⟨A,c,aD,aK,aL⟩:=hv.form;obtain⟨aA,A',c',aE,_,_,aF⟩:=hv;have hA:A=A':=by rw[aD]at aE;injection aE
 subst hA;subst aD;have aM:A.isNone=false:=by
  rcases aF with h | ⟨g,o,h,_⟩
  ·have:=congrArg List.length h;rw[C6,T6 aA]at this;simp at this;omega
  ·rw[h];rfl
 have hl:=T6 aA;have aB:Rd (w.alloc (.cells #[] 35)) 0 w.heap.size A (c8 ks.flatten):=aF.below ((Below.refl _ _).alloc (Nat.le_refl _) _);have aN:∀(w:World) (a:Option Addr) (n c n' c':Nat),(binOp .eql 26 (.slice a n c) (.slice none n' c')).run Tryz.prog w=.ok (.bool a.isNone) w:=fun w a n c n' c'=>Lib.run_eql_slice_nil w _ _ a n c n' c' Tryz.underlying26;go_enter Tryz.func69,Tryz.ntmps69;go_wp2_with (at_builtin;refine D1h 26 (A8 (z8 32)) 32 Tryz.underlying26 A3t (by simp[A8,Value.cells]) (by decide) (by decide) rfl _ _ rfl rfl (n:=0) (base:=w.heap.size) (World.ownsRow_made w #[] 0 (Nat.le_refl _) (Nat.zero_le _) (by simp)) A ks.length c rfl (c8 ks.flatten) (by simp[hl]) 0 _ aB (by intro u hu;obtain⟨x,_,rfl⟩:=List.mem_map.1 hu;rfl) (by omega) (by simp) ?_;intro A' c' w' aG aH aC aI aO aJ);go_ret;exact ⟨_,rfl,⟨aA,by simpa using aC⟩,((Below.refl _ _).alloc (Nat.le_refl _) _).trans aI⟩
def KdT (w:World) (row:Option Nat) (T:TypeId):Prop:=∀g,row=some g→∃cur fz,w.heap[g]?=some (.cells cur T fz)
section
variable {w w' : World} {row : Option Nat} {T : TypeId}
theorem KdT.up (h:KdT w row T) (hb:Below w.heap.size w w'):KdT w' row T:=fun g hg=>by
 obtain⟨c,f,h1⟩:=h g hg;exact ⟨c,f,(hb.block g (Array.getElem?_eq_some_iff.1 h1).1).trans h1⟩
theorem KdT.setCell (h:KdT w row T) (p:Addr) (u:Value):KdT (w.setCell p u) row T:=fun g hg=>by
 obtain⟨c,f,h1⟩:=h g hg;by_cases e:g=p.block
 ·subst e;simp[World.setCell,Array.getElem?_modify,h1]
 ·exact ⟨c,f,(Below.heap_setCell w p u g e).trans h1⟩
theorem KdT.putAt (h:KdT w row T) (g:Nat):∀(vs:List Value) (o:Nat),KdT (C4 w ⟨g,o,none⟩ vs) row T:=by
 intro vs;induction vs generalizing w with
 | nil=>intro o;exact h
 | cons v vs ih=>intro o;exact ih (h.setCell ⟨g,o,none⟩ v) (o+1)
theorem KdT.own (h:KdT w row T) {r:Option Nat} (hg:w.grownBy w' r) (hr:∀k,r=some k→∃o:Obj,w.heap[k]?=some o∧o.isCells=false):KdT w' row T:=fun g e=>by
 obtain⟨c,f,h1⟩:=h g e;refine ⟨c,f,(hg.block g (Array.getElem?_eq_some_iff.1 h1).1 fun e2=>?_).trans h1⟩;obtain⟨o,h2,h3⟩:=hr g e2.symm;rw[h1]at h2;injection h2 with h2;subst h2;cases h3
theorem Xy {base sz n:Nat} {v:Value} {xs:List Value} (h:w.ownsRow base T sz v n xs):KdT w v.ownBlock T:=by
 intro g hg;rcases h.2 with ⟨rfl,_⟩ | ⟨g',cap,cur,rfl,_,hh,_⟩
 ·cases hg
 ·injection hg with hg;subst hg;exact ⟨_,_,hh⟩
end
def KS (w:World) (v:Value) (ks:List (List UInt8)):Prop:=(v=.slice none 0 0∧ks=[])∨(Hs w 0 w.heap.size v ks∧0<ks.length∧KdT w v.ownBlock 35)
theorem KS.up {w w':World} {v:Value} {ks:List (List UInt8)} (h:KS w v ks) (hb:Below w.heap.size w w'):KS w' v ks:=by
 rcases h with h | ⟨h,hn,ht⟩
 ·exact .inl h
 ·exact .inr ⟨(h.below hb).more hb.size,hn,ht.up hb⟩
theorem A1j (v:Value) (ks:List (List UInt8)) (w:World) (hv:KS w v ks) (hn:ks.length≤1099511627) :
 Calls Tryz.prog 69 #[v] w fun e w'=>∃u,e=.returned u∧(Ad w' w.heap.size u ks∧(ks=[]→u=.slice none 0 0))∧Below w.heap.size w w':=by
 rcases hv with ⟨rfl,rfl⟩ | ⟨h,hne,_⟩
 ·refine (B7q w).mono ?_;rintro e w' ⟨rfl,rfl⟩;exact ⟨_,rfl,⟨Ad.nil _ _,fun _=>rfl⟩,Below.refl _ _⟩
 ·refine (B2t v ks w h hne hn).mono ?_;rintro e w' ⟨u,rfl,h1,h2⟩;exact ⟨u,rfl,⟨h1,fun e=>by rw[e]at hne;cases hne⟩,h2⟩
theorem B4g (v:Value) (ks:List (List UInt8)) (w:World) (hv:KS w v ks) (hn:ks.length≤1099511627) :
 Calls Tryz.prog 69 #[v] w fun e w'=>∃u,e=.returned u∧Ad w' w.heap.size u ks∧Below w.heap.size w w':=
 (A1j v ks w hv hn).mono fun _ _ ⟨u,e,o,b⟩=>⟨u,e,o.1,b⟩
end
theorem Ad.less {w:World} {base base':Nat} {v:Value} {ks:List (List UInt8)} (h:Ad w base v ks) (hb:base'≤base):Ad w base' v ks:=by
 refine ⟨h.1,h.2.1,?_⟩;rcases h.2.2 with h2 | ⟨g,cap,cur,hv,hg,r⟩
 ·exact .inl h2
 ·exact .inr ⟨g,cap,cur,hv,by omega,r⟩
def zk (i:Nat) (d:Tmp) (base:Nat) (ks:List (List UInt8)):Soup:=⟨i,d,fun v w=>Ad w base v ks,false⟩
def zl (i:Nat) (d:Tmp) (T:TypeId) (cs:List Value):Soup:=⟨i,d,fun v w=>∃p,v=.slice (some ⟨p,0,none⟩) 1 1∧Bk w p T cs,false⟩
theorem zk_mono (i:Nat) (d:Tmp) (base:Nat) (ks:List (List UInt8)):(zk i d base ks).mono:=fun _ _ _ h hb=>h.below hb (Nat.le_refl _)
theorem zl_mono (i:Nat) (d:Tmp) (T:TypeId) (cs:List Value):(zl i d T cs).mono:=fun _ _ _ ⟨p,e,h⟩ hb=>⟨p,e,h.below hb h.lt⟩
noncomputable def Ju (ks:List (List UInt8)) (u:UV):Bool:=Z5 u&&decide (u.ver=(ks.length:Int)+1)
noncomputable def Il (ks:List (List UInt8)) (u:UV):List (List UInt8):=if Ju ks u then ks++[u.key] else []
noncomputable def Hx (ks:List (List UInt8)) (u:UV):Int:=if Z5 u then (if u.ver=(ks.length:Int)+1 then 0 else 111) else 110
theorem C6x {ks:List (List UInt8)} {u:UV} (h:Z5 u=false):Il ks u=[]∧Hx ks u=110:=by
 unfold Il Hx Ju;rw[h,Bool.false_and];exact ⟨if_neg (by decide),if_neg (by decide)⟩
theorem D0a {ks:List (List UInt8)} {u:UV} (h:Z5 u=true) (h2:¬ u.ver=(ks.length:Int)+1):Il ks u=[]∧Hx ks u=111:=by
 unfold Il Hx Ju;rw[h,Bool.true_and,decide_eq_false h2,if_pos rfl,if_neg h2];exact ⟨if_neg (by decide),rfl⟩
theorem C5j {ks:List (List UInt8)} {u:UV} (h:Z5 u=true) (h2:u.ver=(ks.length:Int)+1):Il ks u=ks++[u.key]∧Hx ks u=0:=by
 unfold Il Hx Ju;rw[h,Bool.true_and,decide_eq_true h2,if_pos rfl,if_pos h2];exact ⟨by first | rfl | exact if_pos rfl,rfl⟩
theorem KS.form {w:World} {v:Value} {ks:List (List UInt8)} (h:KS w v ks):∃A c,v=.slice A ks.length c:=by
 rcases h with ⟨rfl,rfl⟩ | ⟨h,_⟩
 ·exact ⟨none,0,rfl⟩
 ·obtain⟨A,c,e,_⟩:=h.form;exact ⟨A,c,e⟩
theorem B0z (v:Value) (ks:List (List UInt8)) (u:UV) (hu:u.Ok) (w:World) (hv:KS w v ks) (hkn:ks.length≤1000000):Calls Tryz.prog 41 #[v,uvV u] w fun e w'=>∃r,e=.returned (.tuple #[r,.int .i64 (Hx ks u)])∧Ad w' w.heap.size r (Il ks u)∧Below w.heap.size w w':=by
 obtain⟨A,c,rfl⟩:=hv.form;have HP:=Lib.hid hv;have aN:=hu.key;have bC:=hu.len;obtain⟨n,hn⟩:∃n,n=ks.length:=⟨_,rfl⟩;have HN:=Lib.hid hn;rw[←hn]at HP hkn ⊢;clear hv hn;obtain⟨W0,aE⟩:∃z,z=(w.alloc (Obj.cells (Cj u).toArray 48)):=⟨_,rfl⟩;have hL:W0=Q6 w [(48,(Cj u))]:=aE;have B0:Below w.heap.size w W0:=by rw[hL];exact H6 _ _
 have aB:Bk W0 (w.heap.size) 48 (Cj u):=by rw[hL];exact E0 _ w 0 _ _ rfl
 have z0:w.heap.size+1≤W0.heap.size:=by rw[hL,O7];simp
 have aQ:W0.heap.size=w.heap.size+1:=by rw[hL,O7];rfl
 clear hL;have f1:=Bk.rowvc (n:=129) (aB) ((hu.len));rw[aE]at f1;go_enter Tryz.func41,Tryz.ntmps41;go_wp2_with fail;rw[←aE];clear f1;clear aE aQ;refine (B6k u hu W0).mono ?_;rintro e W2 ⟨rfl,b3⟩;have B2:=C1 B0 b3 B0.size;have z2:=Nat.le_trans z0 b3.size;have aA:=aB.below b3 aB.lt;clear b3 B0 z0 aB;cases hsg:Z5 u;case false=>
  have HR:=Lib.hid (C6x (ks:=ks) hsg);clear hsg;go_wp2_with fail;exact bodyPost_ret (v:=.tuple #[.slice none 0 0,.int .i64 110]) (I9 rfl (H9.tmp rfl) (H9.tmp rfl)) rfl ⟨_,by rw[HR.out.2],by rw[HR.out.1];exact Ad.nil _ _,B2⟩
 case true=>
  have HS:=Lib.hid hsg;clear hsg;by_cases hve:u.ver=(n:Int)+1
  ·
   have aO:(u.ver != (n:Int)+1)=false:=by rw[hve];simp
   have HR:=Lib.hid (C5j HS.out (by rw[←HN.out];exact hve));clear hve;have f4:=UV.loadver (aA) hu;go_wp2_with fail;clear f4;clear aO;have S0:Below W2.heap.size W2 W2.drew:=(Below.refl _ _).drew;have aR:=Lib.hid (HP.out.up (C1 B2 S0 B2.size));refine E3 (fun W=>Bk W (w.heap.size) 48 (Cj u)) (by kernel_rfl) ?_;refine C5 (A:=?bD) [0,2,3] (by kernel_rfl) (by kernel_rfl) rfl (by kernel_rfl) (by kernel_rfl) (aA.drew) (h:=fun W hW=>?aS) (hr:=?bE);case aS=>
    have f3:=UV.loadkey hW hu;simp only[pick,List.getElem?_cons_zero,List.getElem?_cons_succ];repeat (go_big_quiet_step (fail))
    refine wpQuiet_nil ?_;rfl
   refine Bm [zk 1 18 W2.drew.heap.size ks,zl 4 21 35 (c8 u.key)] (by kernel_rfl) (fun W hW=>aA.drew.below hW aA.drew.lt) ?aT ?aU ?aV;case aT=>exact List.forall_mem_cons.2 ⟨zk_mono _ _ _ _,List.forall_mem_cons.2 ⟨zl_mono _ _ _ _,fun _ h=>by cases h⟩⟩
   case aU=>
    refine List.forall_mem_cons.2 ⟨?s1,List.forall_mem_cons.2 ⟨?s4,fun _ h=>by cases h⟩⟩;case s1=>
     intro o ho us W hW hp Q' hQ';obtain rfl:=Option.some.inj ho;clear hp ho;rw[C2]at hQ' ⊢;dsimp only[E5,E6,List.foldl,zk,zl]at hQ' ⊢;simp only[List.set_cons_succ,List.set_cons_zero];have aW:=Lib.hid (aR.out.up hW);go_wp2_with fail;refine (B4g _ ks W aW.out (by rw[←HN.out];omega)).mono ?_;rintro e W2 ⟨r,rfl,O2,b2⟩;have O2:=Lib.hid (O2.less hW.size);go_wp2_with fail;exact C9 (hQ' _ _ b2 O2.out (fun h=>by cases h)) (by kernel_rfl)
    case s4=>intro o ho us W hW hp Q' hQ';obtain rfl:=Option.some.inj ho;clear hp ho;rw[C2]at hQ' ⊢;dsimp only[E5,E6,List.foldl,zk,zl]at hQ' ⊢;simp only[List.set_cons_succ,List.set_cons_zero];go_wp2_with fail;exact C9 (hQ' _ _ ((Below.refl _ _).alloc (Nat.le_refl _) _) ⟨_,rfl,Bk.new W _ (c8 u.key)⟩ (fun h=>by cases h)) (by kernel_rfl)
   case aV=>
    intro us W1 b1 hg aG aX;have O1:Ad W1 W2.drew.heap.size (us 1) ks:=hg _ (List.mem_of_getElem? (i:=0) rfl);obtain⟨p,aF,K4⟩:=hg _ (List.mem_of_getElem? (i:=1) rfl);have aF:us 4=.slice (some ⟨p,0,none⟩) 1 1:=aF;have K4:Bk W1 p 35 (c8 u.key):=K4;obtain⟨A1,c1,aH,_,_⟩:=O1.form;rw[aH]at O1;rw[C2];dsimp only[E6,List.foldl,zk,zl];simp only[List.set_cons_succ,List.set_cons_zero];rw[aH,aF];clear hg aG aX aH aF;have aI:=aA.drew.below b1 aA.drew.lt;have BX:=C1 B2 (C1 S0 b1 S0.size) B2.size;have zc:w.heap.size≤W2.drew.heap.size:=Nat.le_trans B2.size S0.size;have z1:=b1.size;rw[←HN.out]at O1 ⊢;have HO:=Lib.hid O1;have aY:Hid (Rd W1 0 W1.heap.size (some ⟨p,0,none⟩) (c8 u.key)):=Lib.hid (.inr ⟨p,0,rfl,Nat.zero_le _,K4.lt,fun j x hj=>by rw[Nat.zero_add];exact K4.at_ hj⟩);have aZ:Hid (∀x∈c8 u.key,x.oneCell'=true):=Lib.hid (by intro x hx;obtain⟨y,_,rfl⟩:=List.mem_map.1 hx;rfl);clear O1 K4;refine C3 5 (by kernel_rfl) (by rfl) (by rfl) (fun Q' hQ'=>?_);dsimp only[E5];have aP:=Lib.hid hQ';clear hQ';go_wp2_with (at_builtin;refine D1h 26 (A8 (z8 32)) 32 Tryz.underlying26 A3t (by simp[A8,Value.cells]) (by decide) (by decide) rfl _ _ rfl rfl (n:=n) (base:=W2.drew.heap.size) (xs:=c8 ks.flatten) (by have:=HO.out.2;rwa [←HN.out]at this) (some ⟨p,0,none⟩) 1 1 rfl (c8 u.key) (by simp[aN]) 0 _ aY.out aZ.out (by omega) z1 ?_;intro A' c' w5 aJ aK aD aL bA aM);have aC:=aI.below aL aA.drew.lt
    have bB:Hid (Ad w5 W2.drew.heap.size (.slice A' (n+1) c') (ks++[u.key])):=Lib.hid ⟨fun q hq=>by
     rcases List.mem_append.1 hq with hq | hq
     ·exact HO.out.1 q hq
     ·simp at hq;subst hq;exact aN,by
     have e:c8 (ks++[u.key]).flatten=c8 ks.flatten++c8 u.key:=by simp[c8]
     rw[e,List.length_append,List.length_singleton,←HN.out];exact aD⟩
    have B5:Below w.heap.size w w5:=BX.trans (aL.mono zc);clear aD bA aM aJ aK aL;refine aP.out _ _ aC ?_;clear aP;refine C3 6 (by kernel_rfl) (by rfl) (by rfl) (fun Q' hQ'=>?_);dsimp only[E5];go_wp2_with fail;refine hQ' _ _ aC ?_;clear hQ';refine C3 7 (by kernel_rfl) (by rfl) (by rfl) (fun Q' hQ'=>?_);dsimp only[E5];go_wp2_with fail;refine hQ' _ _ aC ?_;clear hQ';refine F0 (by kernel_rfl) ?_;go_wp2_with fail;exact bodyPost_ret (v:=.tuple #[.slice A' (n+1) c',.int .i64 0]) (I9 rfl (H9.tmp rfl) (H9.tmp rfl)) rfl ⟨_,by rw[HR.out.2],by rw[HR.out.1];exact bB.out.less zc,B5⟩
  ·
   have aO:(u.ver != (n:Int)+1)=true:=by simpa using hve
   have HR:=Lib.hid (D0a HS.out (by rw[←HN.out];exact hve));clear hve;have f5:=UV.loadver (aA) hu;go_wp2_with fail;clear f5;exact bodyPost_ret (v:=.tuple #[.slice none 0 0,.int .i64 111]) (I9 rfl (H9.tmp rfl) (H9.tmp rfl)) rfl ⟨_,by rw[HR.out.2],by rw[HR.out.1];exact Ad.nil _ _,B2⟩
theorem A4v (t:Tr) (e:Int) (p:Value) (d:Int) (m:Value) (w:World) (h:At w w.heap.size t p) :
 Calls Tryz.prog 17 #[.agg #[.int .i64 e,p,.int .i64 d,m]] w fun x w'=>x=.returned (A8 t.root)∧Below w.heap.size w w':=by
 have hl:=Tr.root_length t;obtain⟨ap,rfl⟩:=h.form;obtain⟨w0,aA⟩:∃x,x=(w.alloc (Obj.cells #[.int .i64 e,.pointer ap,.int .i64 d,m] 56)).alloc (Obj.cells (c8 (z8 32)).toArray 35):=⟨_,rfl⟩;have B0:Below w.heap.size w w0:=by rw[aA];exact ((Below.refl _ _).alloc (Nat.le_refl _) _).alloc (by simp) _
 have R0:Bk w0 (w.heap.size+1) 35 (c8 (z8 32)):=by rw[aA];simpa using Bk.new (w.alloc (Obj.cells #[.int .i64 e,.pointer ap,.int .i64 d,m] 56)) 35 (c8 (z8 32))
 go_enter Tryz.func17,Tryz.ntmps17;go_wp2_with fail;rw[←aA];clear aA;refine (A4j t _ _ w0 ((h.below B0).more B0.size)).mono ?_;rintro x w1 ⟨rfl,h1⟩;have R1:=R0.below h1 R0.lt;have B1:=C1 B0 h1 B0.size;have aB:E7 w1 ⟨w.heap.size+1,0,none⟩ 32=true:=R1.can (by simp);go_wp2_with fail;exact bodyPost_ret (C7 rfl _ _ _ _ _ _ rfl (R1.puts (vs:=c8 t.root) (by simp[hl])) Tryz.underlying35 rfl (by simp[I8,hl])) rfl ⟨rfl,C0 B1 (by simp) _⟩
end Go.Proofs.YtdfpoofbgjilgaaGreat
