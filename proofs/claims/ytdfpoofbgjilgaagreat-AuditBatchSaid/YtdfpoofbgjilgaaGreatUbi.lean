/- A part of the proof of AuditBatch. -/
import Derived.Lib.Bytealg
import Derived.Test.YtdfpoofbgjilgaaGreatUbh
set_option linter.unusedVariables false
set_option linter.unusedSimpArgs false
set_option maxRecDepth 100000
set_option maxHeartbeats 40000000
namespace Go.Proofs.YtdfpoofbgjilgaaGreat
open Go Go.RowKit Sh
section
structure Gw where
 id:List UInt8
 s:Sv
 m:Sv
def Gw.cells (r:Gw):List Value:=c8 r.id++[r.s.v,r.m.v]
def Gw.V (r:Gw):Value:=.agg r.cells.toArray
def Uj:Gw:=⟨z8 32,⟨none,0,0⟩,⟨none,0,0⟩⟩
theorem Gw.len {r:Gw} (h:r.id.length=32):r.cells.length=34:=by simp[Gw.cells,h]
theorem Gw.one (r:Gw):∀x∈r.cells,x.oneCell'=true:=by
 intro x hx;simp only[Gw.cells,List.mem_append,List.mem_cons,List.not_mem_nil,or_false]at hx;rcases hx with hx | rfl | rfl
 ·obtain⟨y,_,rfl⟩:=List.mem_map.1 hx;rfl
 ·rfl
 ·rfl
theorem B8q:(Tryz.prog.info? 64).map (·.size)=some 34:=by kernel_rfl
theorem B8d:((Tryz.prog.info? 64).bind (·.zero))=some Uj.V:=by kernel_rfl
theorem C4c:(Tryz.prog.info? 64).map (fun i=>(i.zero,i.size,i.bytes))=some (some Uj.V,34,80):=by kernel_rfl
theorem A3z:Tryz.prog.underlying 64=some (.struct (V9 Tryz.prog 64)):=by kernel_rfl
theorem C2s (w:World):(Fh (V9 Tryz.prog 64)).run Tryz.prog w=.ok #[(0,32),(32,1),(33,1)] w:=by kernel_rfl
@[go_sem] theorem F3q (r : Gw) : Value.agg r.cells.toArray = r.V := rfl
@[go_sem] theorem E4d (t : TypeId) (w : World) (raw : Result Next) (r : Gw) : Qi t w raw r.V = .ok (.value (.pointer (some ⟨w.heap.size, 0, none⟩))) (w.alloc (.cells r.cells.toArray t)) := rfl
@[go_sem] theorem D6v (n : Nat) (w : World) (raw : Result Next) (a : Addr) (r : Gw) : Z2 n w raw (.pointer (some a)) r.V =
 if r.cells.length=n∧E4 w a n=true then .ok .skip (C5 w a r.cells) else raw:=by
 have h1:(r.cells.toArray.all (·.oneCell'))=true:=by rw[Array.all_eq_true'];intro x hx;exact r.one x (by simpa using hx)
 unfold Gw.V;rw[A2s,h1];simp only[List.size_toArray,true_and]
section
variable (w : World) (ρ : Operand → Value) (dst : Option Tmp) (ty : TypeId) (pos : String) (after : Array Edge) (guard : Option (Nat × Bool))
@[go_sem ↓ high] theorem F1i:RL' 64 34:=LL' A3z B8q
@[go_sem ↓ high] theorem E0h:RS' 64 34:=SS' B8q
@[go_sem ↓ high] theorem E3k:RA' 64 Uj.cells.toArray:=fun w ρ dst ty pos after guard=>P7 w ρ dst ty pos after guard 64 Uj.V B8d
@[go_sem ↓ high] theorem F2z:RB' 64:=BX' _
end
noncomputable def C0j (w:World) (raw:Result Next) (a:Value):Result Next:=match Bt a with
 | some i=>if i.length=32 then .ok (.value (Gw.V ⟨i,⟨none,0,0⟩,⟨none,0,0⟩⟩)) w else raw
 | _=>raw
@[go_sem] theorem E2b (w : World) (raw : Result Next) (i : List UInt8) (hi : i.length = 32) : C0j w raw (A8 i) = .ok (.value (Gw.V ⟨i, ⟨none, 0, 0⟩, ⟨none, 0, 0⟩⟩)) w := by
 unfold C0j;simp only[Y4];simp[hi]
theorem D1l (i:List UInt8) (hi:i.length=32) (w:World):(Instr.build 64 #[(0,A8 i)]).run Tryz.prog w=.ok (Gw.V ⟨i,⟨none,0,0⟩,⟨none,0,0⟩⟩) w:=by
 have aA:Uj.V.cells.toList=c8 (z8 32)++[.slice none 0 0,.slice none 0 0]:=rfl;have h1:=U7 A3z B8d w (C2s w) #[(0,A8 i)] [(0,c8 i)] (by
  rw[aA];exact ⟨by simp[hi],rfl,by simp[hi],trivial⟩)
 refine h1.trans (congrArg (fun (cs:List Value)=>Result.ok (Value.agg cs.toArray) w) ?_);rw[aA];simp[Ib,Y7,hi,List.take_append,List.drop_append,List.drop_eq_nil_of_le,List.take_of_length_le,Gw.cells,Sv.v,c8]
@[go_sem ↓ high] theorem F0l (w : World) (ρ : Operand → Value) (dst : Option Tmp) (ty : TypeId) (pos : String) (after : Array Edge) (guard : Option (Nat × Bool)) (x : Operand) :
 (execOp ρ { dst,op:=.build 64 #[(0,x)],type:=ty,pos,after,guard }).run Tryz.prog w=C0j w (P8 Tryz.prog ρ { dst,op:=.build 64 #[(0,x)],type:=ty,pos,after,guard } w) (ρ x):=by
 generalize h0:ρ x=a;unfold C0j;split
 ·rename_i i g0
  replace g0:=U6 g0;split
  ·rename_i h
   refine U8 w ρ dst ty pos after guard _ _ _ ?_;simp only[List.map_toArray,List.map_cons,List.map_nil,h0,g0];exact D1l i h w
  ·rfl
 ·rfl
@[go_sem ↓ high] theorem F3x (w : World) (ρ : Operand → Value) (dst : Option Tmp) (ty : TypeId) (pos : String) (after : Array Edge) (guard : Option (Nat × Bool)) (x : Operand) :
 (execOp ρ { dst,op:=.buildSlice 57 1 #[(0,x)],type:=ty,pos,after,guard }).run Tryz.prog w=Ol 34 64 w (P8 Tryz.prog ρ { dst,op:=.buildSlice 57 1 #[(0,x)],type:=ty,pos,after,guard } w) (ρ x):=
 Vk w ρ dst ty pos after guard 57 64 34 80 Uj.V x Tryz.underlying57 C4c (by simp[Gw.V,Uj,Gw.cells,Value.cells]) (by decide) (by decide)
@[go_sem] theorem E6l (n : Nat) (e : TypeId) (w : World) (raw : Result Next) (r : Gw) (h : r.cells.length = n) : Ol n e w raw r.V = .ok (.value (.slice (some ⟨w.heap.size, 0, none⟩) 1 1)) (w.alloc (.cells r.cells.toArray e)) := by
 unfold Gw.V;rw[A3t,if_pos (by simpa using h)]
noncomputable def B8b (w:World) (raw:Result Next) (a:Value):Result Next:=match Bt a with
 | some i=>if i.length=32 then .ok (.value (Te ⟨i,0,z8 32,z8 64⟩)) w else raw
 | _=>raw
@[go_sem] theorem E1d (w : World) (raw : Result Next) (i : List UInt8) (hi : i.length = 32) : B8b w raw (A8 i) = .ok (.value (Te ⟨i, 0, z8 32, z8 64⟩)) w := by
 unfold B8b;simp only[Y4];simp[hi]
theorem D3p (i:List UInt8) (hi:i.length=32) (w:World):(Instr.build 48 #[(0,A8 i)]).run Tryz.prog w=.ok (Te ⟨i,0,z8 32,z8 64⟩) w:=by
 have aA:(Te (Ic 129)).cells.toList=c8 (z8 32)++(.int .i64 0::(c8 (z8 32)++c8 (z8 64))):=rfl;have h1:=U7 A3m B9f w (C2q w) #[(0,A8 i)] [(0,c8 i)] (by
  rw[aA];exact ⟨by simp[hi],rfl,by simp[hi],trivial⟩)
 refine h1.trans (congrArg (fun (cs:List Value)=>Result.ok (Value.agg cs.toArray) w) ?_);rw[aA];simp[Ib,Y7,hi,List.take_append,List.drop_append,List.drop_eq_nil_of_le,List.take_of_length_le,P9,c8]
@[go_sem ↓ high] theorem D9f (w : World) (ρ : Operand → Value) (dst : Option Tmp) (ty : TypeId) (pos : String) (after : Array Edge) (guard : Option (Nat × Bool)) (x : Operand) :
 (execOp ρ { dst,op:=.build 48 #[(0,x)],type:=ty,pos,after,guard }).run Tryz.prog w=B8b w (P8 Tryz.prog ρ { dst,op:=.build 48 #[(0,x)],type:=ty,pos,after,guard } w) (ρ x):=by
 generalize h0:ρ x=a;unfold B8b;split
 ·rename_i i g0
  replace g0:=U6 g0;split
  ·rename_i h
   refine U8 w ρ dst ty pos after guard _ _ _ ?_;simp only[List.map_toArray,List.map_cons,List.map_nil,h0,g0];exact D3p i h w
  ·rfl
 ·rfl
end
def upW (s:RS):UInt64:=w8L (Lw 8 (Z9 32 s))
def B3s (s:RS):RS:=Z9 64 (Z9 32 (Z9 8 (Z9 32 s)))
def A2v (s:RS):UV:=⟨Pz s,wrap64 (H6 (upW s)),Pz (Z9 8 (Z9 32 s)),sgL (Z9 32 (Z9 8 (Z9 32 s)))⟩
def B3n (s:RS):Bool:=decide (64<(upW s).toNat)
def Hk (s:RS):Bool:=Jh s==0||Jh s==11
def Vw:Nat→RS→List UV→Bool→List UV×Bool×RS
 | 0,s,us,f=>(us,f,s)
 | n+1,s,us,f=>if Hk s then Vw n (B3s s) (us++[A2v s]) (f||B3n s) else (us,f,s)
def Ew (l:List UInt8):List UV×Int:=
 let r:=Vw (Ie (l,0)) (Jm (l,0)) [] false
 if Jh r.2.2=0 then (if r.2.1 then ([],13) else (r.1,0)) else ([],Jh r.2.2)
theorem Eu (s:RS):(Pz s).length=32:=by
 unfold Pz;split
 ·simp
 ·rename_i h
  unfold Lw at h ⊢;split at h
  ·rename_i h2;rw[if_pos h2,List.length_take];omega
  ·exact (h rfl).elim
theorem A1u (s:RS):(sgL s).length=64:=by
 unfold sgL;split
 ·simp
 ·rename_i h
  unfold Lw at h ⊢;split at h
  ·rename_i h2;rw[if_pos h2,List.length_take];omega
  ·exact (h rfl).elim
theorem D2f (s:RS):(A2v s).Ok:=⟨Eu _,Eu _,A1u _⟩
structure HpI (w wr : World) (g : Nat) (ov : Value) (us : List UV) (s : RS) : Prop where
 rd:WRd wr g s
 row:OwnU wr (g+1) ov us
 below:Below w.heap.size w wr
 hg:w.heap.size≤g
theorem HpI.up {w wr w':World} {g:Nat} {ov:Value} {us:List UV} {s:RS} (h:HpI w wr g ov us s) (hb:Below wr.heap.size wr w'):HpI w w' g ov us s:=
 ⟨h.rd.up hb,⟨h.row.1,Q7 h.row.2 hb (Nat.le_refl _)⟩,C0 h.below hb h.below.size,h.hg⟩
theorem HpI.tk {w wr w':World} {g:Nat} {ov:Value} {us:List UV} {s s':RS} (h:HpI w wr g ov us s) (hT:TkR wr w' g s'):HpI w w' g ov us s':=
 ⟨hT.rd,⟨h.row.1,World.ownsRow.kept h.row.2 hT.gr (by
  cases hv:ov.ownBlock with
  | none=>exact .inl rfl
  | some k=>
   refine .inr fun e=>?_;injection e with e;have:=h.row.2.lt k hv;omega)⟩,h.below.grown hT.gr h.below.size (fun k e=>by cases e;exact h.hg),h.hg⟩
theorem HpI.box {w wr:World} {g:Nat} {ov:Value} {us:List UV} {s:RS} (h:HpI w wr g ov us s) {b:Nat} (hb:g<b) (hne:∀k,ov.ownBlock=some k→k≠b) (o:Nat) (vs:List Value):HpI w (C5 wr ⟨b,o,none⟩ vs) g ov us s:=
 ⟨h.rd.putFar hb vs,⟨h.row.1,World.ownsRow.kept h.row.2 (X0 wr b o vs) (by
  cases hv:ov.ownBlock with
  | none=>exact .inl rfl
  | some k=>exact .inr fun e=>hne k hv (by injection e))⟩,C1 h.below (by have:=h.hg;simp;omega) vs,h.hg⟩
theorem D4e {W:World} {g:Nat} {t:TypeId} {id k s:List UInt8} {v:Int} (K:Bk W g t (P9 ⟨id,0,z8 32,z8 64⟩)) (hi:id.length=32) (hk:k.length=32) (hs:s.length=64) :
 Bk (C5 (C5 (W.setCell ⟨g,32,none⟩ (.int .i64 v)) ⟨g,33,none⟩ (c8 k)) ⟨g,65,none⟩ (c8 s)) g t (P9 ⟨id,v,k,s⟩):=by
 have h1:=K.set_ 32 (.int .i64 v);have e1:(P9 ⟨id,0,z8 32,z8 64⟩).set 32 (.int .i64 v)=P9 ⟨id,v,z8 32,z8 64⟩:=by unfold P9;rw[List.set_append_right _ _ (by simp[hi])];simp[hi]
 rw[e1]at h1;have h2:=h1.put (o:=33) (vs:=c8 k) (by simp[P9,hi,hk]);have e2:(P9 ⟨id,v,z8 32,z8 64⟩).take 33++c8 k++(P9 ⟨id,v,z8 32,z8 64⟩).drop (33+(c8 k).length)=P9 ⟨id,v,k,z8 64⟩:=by
  simp[P9,hi,hk,List.take_append,List.drop_append,List.take_of_length_le,List.drop_eq_nil_of_le,c8]
 rw[e2]at h2;have h3:=h2.put (o:=65) (vs:=c8 s) (by simp[P9,hi,hk,hs]);have e3:(P9 ⟨id,v,k,z8 64⟩).take 65++c8 s++(P9 ⟨id,v,k,z8 64⟩).drop (65+(c8 s).length)=P9 ⟨id,v,k,s⟩:=by
  simp[P9,hi,hk,hs,List.take_append,List.drop_append,List.take_of_length_le,List.drop_eq_nil_of_le,c8]
 rw[e3]at h3;exact h3
theorem Zd (v:Value) (l:List UInt8) (w:World) (hv:By w 0 w.heap.size v l) (hn:l.length≤1099511627776) :
 Calls Tryz.prog 98 #[v] w fun x w'=>∃u,x=.returned (.tuple #[u,.int .i64 (Ew l).2])∧OwnU w' w.heap.size u (Ew l).1∧Below w.heap.size w w':=by
 obtain⟨R,hR⟩:∃R,R=Vw (Ie (l,0)) (Jm (l,0)) [] false:=⟨_,rfl⟩;have HR:=Lib.hid hR;have HP:Hid (Ew l=if Jh R.2.2=0 then (if R.2.1 then ([],13) else (R.1,0)) else ([],Jh R.2.2)):=Lib.hid (by rw[hR];rfl);obtain⟨pu,aV⟩:∃pu,pu=Ew l:=⟨_,rfl⟩;rw[←aV]at HP ⊢;clear hR aV;go_enter Tryz.func98,Tryz.ntmps98;go_wp2_with fail;refine (A3l v l w hv hn).mono ?_;rintro x w1 ⟨g,rfl,hg,aI,b1⟩;clear hv;go_wp2_with fail;refine (Rk g (l,0) w1 aI).mono ?_;rintro x w2 ⟨rfl,hT⟩;have I0:HpI w w2 g (.slice none 0 0) [] (Jm (l,0)):=HpI.tk (s:=(l,0)) ⟨aI,⟨fun u hu=>(by cases hu),World.ownsRow_nil _ _ _ _⟩,b1,hg⟩ hT;have aW:Ie (l,0)≤65536:=Kg _ _;obtain⟨m0,aJ⟩:∃m,m=Ie (l,0):=⟨_,rfl⟩;obtain⟨s0,aK⟩:∃s,s=Jm (l,0):=⟨_,rfl⟩;have aX:Hid (R=Vw m0 s0 [] false):=Lib.hid (by rw[HR.out,aJ,aK]);rw[←aK]at I0;rw[←aJ]at aW ⊢;clear hT aI aJ aK HR b1;go_wp2_with fail;go_loopw [5,6,7] (fun ov fv nv wr=>∃(m:Nat) (us:List UV) (f:Bool) (s:RS),nv=.int .i64 (m:Int)∧fv=.bool f∧HpI w wr g ov us s∧Hid (R=Vw m s us f)∧us.length+m≤65536) (fun _ _ nv _=>(intOf nv).toNat)
 case atStart=>exact ⟨m0,[],false,s0,rfl,rfl,I0,aX,by simpa using aW⟩
 case round=>
  clear I0 aX;obtain⟨m,us,f,s,rfl,rfl,I,aG,bG⟩:=hrel;obtain⟨Ao,co,rfl,-,-⟩:=O7 I.row.2;rcases Nat.eq_zero_or_pos m with hm | hm
  ·subst hm;have aL:R=(us,f,s):=aG.out;go_wp2_with fail;refine (Z1 g s wr I.rd).mono ?_;rintro x wx ⟨rfl,rfl⟩;have HF:=HP.out;rw[aL]at HF;simp only at HF;by_cases hz:Jh s=0
   ·rw[if_pos hz]at HF;have aB:(Jh s==0)=true:=by rw[hz];rfl
    rw[hz];clear hz aB;cases f with
    | true=>
     rw[if_pos rfl]at HF;subst HF;go_wp2_with fail;exact bodyPost_ret (E3 rfl (C9.tmp rfl) (C9.tmp rfl)) rfl ⟨_,rfl,⟨fun u hu=>(by cases hu),World.ownsRow_nil _ _ _ _⟩,I.below⟩
    | false=>
     rw[if_neg (by decide)]at HF;subst HF;go_wp2_with fail;exact bodyPost_ret (E3 rfl (C9.tmp rfl) (C9.tmp rfl)) rfl ⟨_,rfl,⟨I.row.1,Km I.row.2 (by have:=I.hg;omega)⟩,I.below⟩
   ·rw[if_neg hz]at HF;have aB:(Jh s==0)=false:=beq_eq_false_iff_ne.2 hz;subst HF;clear hz;go_wp2_with fail;exact bodyPost_ret (E3 rfl (C9.tmp rfl) (C9.tmp rfl)) rfl ⟨_,rfl,⟨fun u hu=>(by cases hu),World.ownsRow_nil _ _ _ _⟩,I.below⟩
  ·obtain⟨m',rfl⟩:∃m',m=m'+1:=⟨m-1,by omega⟩;have hd:decide ((0:Int)<((m'+1:Nat):Int))=true:=decide_eq_true (by omega);have bN:decide (0<m'+1)=true:=decide_eq_true (by omega);by_cases hw:Hk s=true
   ·have bH:Hid (R=Vw m' (B3s s) (us++[A2v s]) (f||B3n s)):=Lib.hid (by
     have:=aG.out;unfold Vw at this;rw[if_pos hw]at this;exact this)
    have aM:(Jh s==0)=false→(Jh s==11)=true:=fun h=>by
     unfold Hk at hw;rw[h,Bool.false_or]at hw;exact hw
    clear aG hw;cases hz:(Jh s==0);case' false=>
     have bI:=aM hz;clear aM;go_wp2_with fail;refine (Z1 g s wr I.rd).mono ?_;rintro x wx ⟨rfl,hx⟩;rw[hx];clear hx wx;go_wp2_with fail;refine (Z1 g s wr I.rd).mono ?_;rintro x wx ⟨rfl,hx⟩;rw[hx];clear hx wx;go_wp2_with fail;clear bI
    case' true=>
     clear aM;go_wp2_with fail;refine (Z1 g s wr I.rd).mono ?_;rintro x wx ⟨rfl,hx⟩;rw[hx];clear hx wx;go_wp2_with fail
    all_goals
     clear hz;refine (Pg g s wr I.rd).mono ?_;rintro x w3 ⟨rfl,aY⟩;have I3:=I.tk aY;have aA:=Eu s;have aC:(⟨Pz s,0,z8 32,z8 64⟩:UV).length=129:=UV.Ok.len ⟨aA,by simp,by simp⟩;have aN:=(Bk.new w3 48 (P9 (Ic 129))).canvc (n:=129) (Cr _).len;obtain⟨W4,aH⟩:∃y,y=C5 (w3.alloc (Obj.cells (P9 (Ic 129)).toArray 48)) ⟨w3.heap.size,0,none⟩ (P9 ⟨Pz s,0,z8 32,z8 64⟩):=⟨_,rfl⟩;have ku:Bk W4 w3.heap.size 48 (P9 ⟨Pz s,0,z8 32,z8 64⟩):=by rw[aH];exact (Bk.new w3 48 (P9 (Ic 129))).putvc (n:=129) (Cr _).len aC
     have b4:Below w3.heap.size w3 W4:=by rw[aH];exact C1 ((Below.refl _ _).alloc (Nat.le_refl _) _) (Nat.le_refl _) _
     have I4:=I3.up b4;have aO:g<w3.heap.size:=I3.rd.lt;have aP:∀k,(Value.slice Ao us.length co).ownBlock=some k→k≠w3.heap.size:=fun k hk=>by have:=(I3.row.2.lt k hk).2;omega
     go_wp2_with fail;rw[←aH];clear aH aN b4 I3 aY aC I;generalize w3.heap.size=gu at *;refine (B3w g (Z9 32 s) W4 I4.rd).mono ?_;rintro x w5 ⟨rfl,aQ⟩;rw[show w8L (Lw 8 (Z9 32 s))=upW s from rfl];have I5:=I4.tk aQ;have aZ:=ku.grown aQ.gr (by simp;omega);have bJ:decide ((64:Int)<H6 (upW s))=B3n s:=by
      unfold B3n H6;rw[decide_eq_decide];omega
     clear I4 aQ ku
    all_goals
     rcases Bool.eq_false_or_eq_true f with hf | hf
    all_goals
     go_wp2_with fail;refine (Pg g (Z9 8 (Z9 32 s)) w5 I5.rd).mono ?_;rintro x w6 ⟨rfl,aR⟩;have I6:=I5.tk aR;have bA:=aZ.grown aR.gr (by simp;omega);clear I5 aR aZ bJ;go_wp2_with fail;refine (C5z g (Z9 32 (Z9 8 (Z9 32 s))) w6 I6.rd).mono ?_;rintro x w7 ⟨rfl,aS⟩;have I7:=I6.tk aS;have aD:=bA.grown aS.gr (by simp;omega);clear I6 aS bA;have aT:=Eu (Z9 8 (Z9 32 s));have bK:=A1u (Z9 32 (Z9 8 (Z9 32 s)));have Fe:w7.cell? ⟨gu,32,none⟩=some (.int .i64 0):=UV.loadver aD ⟨aA,by simp,by simp⟩;have bO:=aD.frozen 32;have aU:=aD.set_ 32 (.int .i64 (wrap64 (H6 (upW s))));have bB:E4 (w7.setCell ⟨gu,32,none⟩ (.int .i64 (wrap64 (H6 (upW s))))) ⟨gu,33,none⟩ 32=true:=aU.can (by simp[P9,aA]);have bC:=aU.put (o:=33) (vs:=c8 (Pz (Z9 8 (Z9 32 s)))) (by simp[P9,aA,aT]);have bD:E4 (C5 (w7.setCell ⟨gu,32,none⟩ (.int .i64 (wrap64 (H6 (upW s))))) ⟨gu,33,none⟩ (c8 (Pz (Z9 8 (Z9 32 s))))) ⟨gu,65,none⟩ 64=true:=bC.can (by simp[P9,aA,aT]);have k8:Bk (C5 (C5 (w7.setCell ⟨gu,32,none⟩ (.int .i64 (wrap64 (H6 (upW s))))) ⟨gu,33,none⟩ (c8 (Pz (Z9 8 (Z9 32 s))))) ⟨gu,65,none⟩ (c8 (sgL (Z9 32 (Z9 8 (Z9 32 s)))))) gu 48 (P9 (A2v s)):=D4e aD aA aT bK;have I8:HpI w (C5 (C5 (w7.setCell ⟨gu,32,none⟩ (.int .i64 (wrap64 (H6 (upW s))))) ⟨gu,33,none⟩ (c8 (Pz (Z9 8 (Z9 32 s))))) ⟨gu,65,none⟩ (c8 (sgL (Z9 32 (Z9 8 (Z9 32 s)))))) g (.slice Ao us.length co) us (B3s s):=
      ((I7.box aO aP 32 [.int .i64 (wrap64 (H6 (upW s)))]).box aO aP 33 _).box aO aP 65 _
     have bE:=D2f s;have aC:=bE.len;have r8:=k8.rowvc (n:=129) aC;have bL:(Te (Ic 129)).cells.size=129:=by simp[Te,P9,Ic,Value.cells]
     have aE:g+1≤(C5 (C5 (w7.setCell ⟨gu,32,none⟩ (.int .i64 (wrap64 (H6 (upW s))))) ⟨gu,33,none⟩ (c8 (Pz (Z9 8 (Z9 32 s))))) ⟨gu,65,none⟩ (c8 (sgL (Z9 32 (Z9 8 (Z9 32 s)))))).heap.size:=I8.rd.lt;clear aU bC aD I7;go_wp2_with (first | (at_builtin;refine Ru 44 48 (Te (Ic 129)) 129 136 Tryz.underlying44 We bL (by decide) (by decide) rfl _ _ rfl rfl I8.row.2 (P9 (A2v s)) aC (Tp _) _ rfl rfl (by simp) (by omega) aE ?_;intro A9 c9 w9 bP bQ aF bF bR bM) | fail);have I9:HpI w w9 g (.slice A9 (us.length+1) c9) (us++[A2v s]) (B3s s):=
      ⟨I8.rd.below bF (by omega),⟨fun u hu=>(by
       rcases List.mem_append.1 hu with hu | hu
       ·exact I8.row.1 u hu
       ·simp at hu;subst hu;exact bE),by simpa using aF⟩,I8.below.trans (bF.mono (by have:=I8.hg;omega)),I8.hg⟩
     go_wp2_with fail;go_roundw;case rel=>exact ⟨m',us++[A2v s],f||B3n s,B3s s,rfl,by rw[hf];first | rfl | simp,I9,bH,by simp;omega⟩
     case measure=>simp[intOf]
   ·have aL:R=(us,f,s):=by have:=aG.out;unfold Vw at this;rw[if_neg hw]at this;exact this
    have bS:(Jh s==0)=false:=by
     cases h:(Jh s==0) with
     | false=>rfl
     | true=>exact (hw (by unfold Hk;rw[h];rfl)).elim
    have bT:(Jh s==11)=false:=by
     cases h:(Jh s==11) with
     | false=>rfl
     | true=>exact (hw (by unfold Hk;rw[h,Bool.or_true])).elim
    go_wp2_with fail;refine (Z1 g s wr I.rd).mono ?_;rintro x wx ⟨rfl,rfl⟩;go_wp2_with fail;refine (Z1 g s wx I.rd).mono ?_;rintro x wy ⟨rfl,rfl⟩;go_wp2_with fail;refine (Z1 g s wy I.rd).mono ?_;rintro x wz ⟨rfl,rfl⟩;have HF:=HP.out;rw[aL]at HF;simp only at HF;by_cases hz:Jh s=0
    ·rw[if_pos hz]at HF;have aB:(Jh s==0)=true:=by rw[hz];rfl
     rw[hz];clear hz aB;cases f with
     | true=>
      rw[if_pos rfl]at HF;subst HF;go_wp2_with fail;exact bodyPost_ret (E3 rfl (C9.tmp rfl) (C9.tmp rfl)) rfl ⟨_,rfl,⟨fun u hu=>(by cases hu),World.ownsRow_nil _ _ _ _⟩,I.below⟩
     | false=>
      rw[if_neg (by decide)]at HF;subst HF;go_wp2_with fail;exact bodyPost_ret (E3 rfl (C9.tmp rfl) (C9.tmp rfl)) rfl ⟨_,rfl,⟨I.row.1,Km I.row.2 (by have:=I.hg;omega)⟩,I.below⟩
    ·rw[if_neg hz]at HF;have aB:(Jh s==0)=false:=beq_eq_false_iff_ne.2 hz;subst HF;clear hz;go_wp2_with fail;exact bodyPost_ret (E3 rfl (C9.tmp rfl) (C9.tmp rfl)) rfl ⟨_,rfl,⟨fun u hu=>(by cases hu),World.ownsRow_nil _ _ _ _⟩,I.below⟩
def Mp:Nat→RS→List (List UInt8)→List (List UInt8)×RS
 | 0,s,ks=>(ks,s)
 | n+1,s,ks=>if Hk s then Mp n (Z9 32 s) (ks++[Pz s]) else (ks,s)
abbrev G0 := List UInt8 × List (List UInt8) × List UInt8
def Lx:Nat→RS→List G0→List G0×RS
 | 0,s,out=>(out,s)
 | n+1,s,out=>if Hk s then Lx n (rbS (Mp (Ie (Z9 32 s)) (Jm (Z9 32 s)) []).2) (out++[(Pz s,(Mp (Ie (Z9 32 s)) (Jm (Z9 32 s)) []).1,Xy (Mp (Ie (Z9 32 s)) (Jm (Z9 32 s)) []).2)]) else (out,s)
abbrev Gr := List UInt8 × List (List UInt8) × List UV
def El:List G0→List Gr→Except Int (List Gr)
 | [],acc=>.ok acc
 | q::L,acc=>if (Ew q.2.2).2=0 then El L (acc++[(q.1,q.2.1,(Ew q.2.2).1)]) else .error (Ew q.2.2).2
def Da (l:List UInt8):Except Int (Pt×List Gr):=
 let r:=Lx (Ie (rbS (l,0))) (Jm (rbS (l,0))) []
 if Jh r.2=0 then (match Dd (Xy (l,0)) with
  | .error m=>.error (m:Int)
  | .ok p=>match El r.1 [] with
   | .error e=>.error e
   | .ok gs=>.ok (p,gs)) else .error (Jh r.2)
theorem B3l (gb g:Nat) (s:RS) (w:World) (hb:Bk w gb 102 [.pointer (some ⟨g,0,none⟩)]) (h:WRd w g s) :
 Calls Tryz.prog 95 #[.pointer (some ⟨gb,0,none⟩)] w fun e w'=>e=.returned (.bool (Hk s))∧w'=w:=by
 have cb:w.cell? ⟨gb,0,none⟩=some (.pointer (some ⟨g,0,none⟩)):=hb.at_ rfl;obtain⟨r,hr⟩:∃r,r=Hk s:=⟨_,rfl⟩;rw[←hr];cases h0:(Jh s==0);case' false=>
  have e:r=(Jh s==11):=by rw[hr];unfold Hk;rw[h0,Bool.false_or]
  rw[e];clear hr e r;go_enter Tryz.func95,Tryz.ntmps95;go_wp2_with fail;refine (Z1 g s w h).mono ?_;rintro x wx ⟨rfl,hx⟩;rw[hx];clear hx wx;go_wp2_with fail;refine (Z1 g s w h).mono ?_;rintro x wx ⟨rfl,hx⟩;rw[hx];clear hx wx;go_wp2_with fail;go_ret;exact ⟨rfl,rfl⟩
 case' true=>
  have e:r=true:=by rw[hr];unfold Hk;rw[h0,Bool.true_or]
  rw[e];clear hr e r;go_enter Tryz.func95,Tryz.ntmps95;go_wp2_with fail;refine (Z1 g s w h).mono ?_;rintro x wx ⟨rfl,hx⟩;rw[hx];clear hx wx;go_wp2_with fail;go_ret;exact ⟨rfl,rfl⟩
section
variable {P : Program} {l : List Oper} {Q : Exit → Act → World → Prop} {S : World → Prop} {w : World}
theorem C2u {done:List Nat} (i j m:Nat) (F:Value→Value→Value→Act) {ui uj um ri:Value} (T:World→Prop) (J M:Value→World→Prop) {o p q:Oper}
 (h0:Aa l done [i,j]=true) (h1:Aa l (done++[i]) [j]=true) (h2:Aa l (done++[i]++[j]) [m]=true) (h3:Aa l (done++[j]) [i,m]=true) (h4:Aa l (done++[j]++[i]) [m]=true) (h5:Aa l (done++[j]++[m]) [i]=true)
 (e1:(J3 l.length (done++[i]++[j]++[m])==J3 l.length (done++[i,j,m]))=true) (e2:(J3 l.length (done++[j]++[i]++[m])==J3 l.length (done++[i,j,m]))=true) (e3:(J3 l.length (done++[j]++[m]++[i])==J3 l.length (done++[i,j,m]))=true)
 (hi:l[i]?=some o) (hj:l[j]?=some p) (hm:l[m]?=some q)
 (gi:∀x y z,Region.wanted o (yielded l.toArray (F x y z).tmps)=true) (gj:∀x y z,Region.wanted p (yielded l.toArray (F x y z).tmps)=true) (gm:∀x y z,Region.wanted q (yielded l.toArray (F x y z).tmps)=true)
 (hS:S w) (hT:T w)
 (hI:∀y z W,S W→T W→∀Q':Exit→Act→World→Prop,Q' .normal (F ri y z) W→wpList P #[D8 o] Q' [D8 o] (F ui y z) W)
 (hJ:∀x,∀Q':Exit→Act→World→Prop,(∀y W',S W'→T W'→J y W'→Q' .normal (F x y um) W')→wpList P #[D8 p] Q' [D8 p] (F x uj um) w)
 (hM:∀x y W,S W→T W→J y W→∀Q':Exit→Act→World→Prop,(∀z W',S W'→T W'→M z W'→Q' .normal (F x y z) W')→wpList P #[D8 q] Q' [D8 q] (F x y um) W)
 (hR:∀y z W,S W→T W→M z W→O9 P l Q S (done++[i,j,m]) (F ri y z) W):O9 P l Q S done (F ui uj um) w:=by
 have aA:∀d:List Nat,d.length=(done++[i,j,m]).length→(J3 l.length d==J3 l.length (done++[i,j,m]))=true→∀y z W,S W→T W→M z W→O9 P l Q S d (F ri y z) W:=by intro d hd he y z W hS hT hM;exact C2a (by simp only[Bool.and_eq_true];exact ⟨he,by simpa using hd⟩) (hR y z W hS hT hM)
 refine B0y i j h0 hi hj (gi _ _ _) (gj _ _ _) (fun Q' hQ'=>?_) (fun Q' hQ'=>?_)
 ·refine hI _ _ _ hS hT _ (hQ' _ _ hS ?_);refine C2 j h1 hj (gj _ _ _) (fun Q' hQ'=>hJ _ _ fun y W2 S2 T2 J2=>hQ' _ _ S2 ?_);refine C2 m h2 hm (gm _ _ _) (fun Q' hQ'=>hM _ _ _ S2 T2 J2 _ fun z W3 S3 T3 M3=>hQ' _ _ S3 ?_);exact aA _ (by simp) e1 _ _ _ S3 T3 M3
 ·refine hJ _ _ fun y W1 S1 T1 J1=>hQ' _ _ S1 ?_;refine B0y i m h3 hi hm (gi _ _ _) (gm _ _ _) (fun Q' hQ'=>?_) (fun Q' hQ'=>?_)
  ·refine hI _ _ _ S1 T1 _ (hQ' _ _ S1 ?_);refine C2 m h4 hm (gm _ _ _) (fun Q' hQ'=>hM _ _ _ S1 T1 J1 _ fun z W3 S3 T3 M3=>hQ' _ _ S3 ?_);exact aA _ (by simp) e2 _ _ _ S3 T3 M3
  ·refine hM _ _ _ S1 T1 J1 _ fun z W2 S2 T2 M2=>hQ' _ _ S2 ?_;refine C2 i h5 hi (gi _ _ _) (fun Q' hQ'=>hI _ _ _ S2 T2 _ (hQ' _ _ S2 ?_));exact aA _ (by simp) e3 _ _ _ S2 T2 M2
end
def ByT (w:World) (v:Value) (l:List UInt8):Prop:=By w 0 w.heap.size v l∧Mb w v.ownBlock 5
theorem ByT.up {w w':World} {v:Value} {l:List UInt8} (h:ByT w v l) (hb:Below w.heap.size w w'):ByT w' v l:=⟨h.1.up hb,h.2.up hb⟩
section
variable {W W' : World} {row : Option Nat} {T : TypeId}
theorem ByT.grown {v:Value} {l:List UInt8} (h:ByT W v l) (hg:W.grownBy W' row) (hk:Mb W row T) (hT:5≠T):ByT W' v l:=by
 obtain⟨⟨A,c,e,h1,h2,h3⟩,ht⟩:=h;refine ⟨⟨A,c,e,h1,h2,?_⟩,ht.grown hg hk hT⟩;rcases h3 with h3 | ⟨b,o,rfl,hl,hb,hc⟩
 ·exact .inl h3
 ·refine .inr ⟨b,o,rfl,hl,Nat.lt_of_lt_of_le hb hg.size,fun j u hj=>?_⟩;obtain⟨aA,fz,h5⟩:=ht b (by rw[e];rfl);have h6:W'.heap[b]?=W.heap[b]?:=hg.block b hb (hk.ne (fun g' e'=>by injection e' with e';subst e';exact ⟨aA,fz,h5⟩) hT);exact (World.cell?_of_block h6).trans (hc j u hj)
def HsK (w:World) (v:Value) (ks:List (List UInt8)):Prop:=Hs w 0 w.heap.size v ks∧Mb w v.ownBlock 35∧(ks=[]→v=.slice none 0 0)
theorem HsK.up {w w':World} {v:Value} {ks:List (List UInt8)} (h:HsK w v ks) (hb:Below w.heap.size w w'):HsK w' v ks:=⟨(h.1.below hb).more hb.size,h.2.1.up hb,h.2.2⟩
theorem HsK.ks {w:World} {v:Value} {ks:List (List UInt8)} (h:HsK w v ks):KS w v ks:=by
 rcases ks with _ | ⟨k,ks⟩
 ·exact .inl ⟨h.2.2 rfl,rfl⟩
 ·exact .inr ⟨h.1,by simp,h.2.1⟩
theorem HsK.grown {v:Value} {ks:List (List UInt8)} (h:HsK W v ks) (hg:W.grownBy W' row) (hk:Mb W row T) (hT:35≠T):HsK W' v ks:=⟨(C7w h.1 h.2.1 hg hk hT).more hg.size,h.2.1.grown hg hk hT,h.2.2⟩
end
def C9g (w:World) (r:Gw) (q:G0):Prop:=r.id=q.1∧q.1.length=32∧HsK w r.s.v q.2.1∧r.m=⟨none,0,0⟩
def GwsAre (w:World):List Gw→List G0→Prop
 | [],[]=>True
 | r::R,q::L=>C9g w r q∧GwsAre w R L
 | _,_=>False
def BysAre (w:World):List Value→List G0→Prop
 | [],[]=>True
 | v::R,q::L=>ByT w v q.2.2∧BysAre w R L
 | _,_=>False
theorem GwsAre.map {w w':World} (f:∀ {v:Value} {ks:List (List UInt8)},HsK w v ks→HsK w' v ks):∀ {R:List Gw} {L:List G0},GwsAre w R L→GwsAre w' R L
 | [],[],_=>trivial
 | _::_,_::_,h=>⟨⟨h.1.1,h.1.2.1,f h.1.2.2.1,h.1.2.2.2⟩,GwsAre.map f h.2⟩
 | [],_::_,h=>h.elim
 | _::_,[],h=>h.elim
theorem BysAre.map {w w':World} (f:∀ {v:Value} {l:List UInt8},ByT w v l→ByT w' v l):∀ {R:List Value} {L:List G0},BysAre w R L→BysAre w' R L
 | [],[],_=>trivial
 | _::_,_::_,h=>⟨f h.1,BysAre.map f h.2⟩
 | [],_::_,h=>h.elim
 | _::_,[],h=>h.elim
theorem GwsAre.snoc {w:World} {r:Gw} {q:G0}:∀ {R:List Gw} {L:List G0},GwsAre w R L→C9g w r q→GwsAre w (R++[r]) (L++[q])
 | [],[],_,h=>⟨h,trivial⟩
 | _::_,_::_,h,k=>⟨h.1,GwsAre.snoc h.2 k⟩
 | [],_::_,h,_=>h.elim
 | _::_,[],h,_=>h.elim
theorem BysAre.snoc {w:World} {v:Value} {q:G0}:∀ {R:List Value} {L:List G0},BysAre w R L→ByT w v q.2.2→BysAre w (R++[v]) (L++[q])
 | [],[],_,h=>⟨h,trivial⟩
 | _::_,_::_,h,k=>⟨h.1,BysAre.snoc h.2 k⟩
 | [],_::_,h,_=>h.elim
 | _::_,[],h,_=>h.elim
structure ApO (w wr : World) (g gb : Nat) (pv ov bv : Value) (pl : List UInt8) (G G' : List G0) (s : RS) : Prop where
 rd:WRd wr g s
 box:Bk wr gb 102 [.pointer (some ⟨g,0,none⟩)]
 part:ByT wr pv pl
 out:∃R,GwsAre wr R G∧wr.ownsRow (g+1) 64 34 ov G.length (R.flatMap Gw.cells)
 bat:∃vs,BysAre wr vs G'∧wr.ownsRow (g+1) 29 1 bv G'.length vs
 below:Below w.heap.size w wr
 hg:w.heap.size≤g
section
variable {w wr w' : World} {g gb : Nat} {pv ov bv : Value} {pl : List UInt8} {G G' : List G0} {s s' : RS}
theorem ApO.up (h:ApO w wr g gb pv ov bv pl G G' s) (hb:Below wr.heap.size wr w'):ApO w w' g gb pv ov bv pl G G' s:=by
 obtain⟨R,h1,h2⟩:=h.out;obtain⟨vs,h3,h4⟩:=h.bat;exact ⟨h.rd.up hb,h.box.below hb h.box.lt,h.part.up hb,⟨R,h1.map fun x=>x.up hb,Q7 h2 hb (Nat.le_refl _)⟩,⟨vs,h3.map fun x=>x.up hb,Q7 h4 hb (Nat.le_refl _)⟩,C0 h.below hb h.below.size,h.hg⟩
theorem ApO.tk (h:ApO w wr g gb pv ov bv pl G G' s) (hT:TkR wr w' g s'):ApO w w' g gb pv ov bv pl G G' s':=by
 obtain⟨R,h1,h2⟩:=h.out;obtain⟨vs,h3,h4⟩:=h.bat;have hk:Mb wr (some g) 175:=by
  obtain⟨v,K,_⟩:=h.rd;exact Fw K
 have ne:∀ {T:TypeId} {sz n:Nat} {v:Value} {xs:List Value},wr.ownsRow (g+1) T sz v n xs→v.ownBlock=none∨v.ownBlock≠some g:=fun {T sz n v xs} ho=>by
  cases hv:v.ownBlock with
  | none=>exact .inl rfl
  | some k=>
   refine .inr fun e=>?_;injection e with e;have:=(ho.lt k hv).1;omega
 exact ⟨hT.rd,h.box.grown hT.gr (fun e=>by
  injection e with e;subst e;obtain⟨v,K,_⟩:=h.rd;exact Bk.apart K h.box (by decide) rfl),h.part.grown hT.gr hk (by decide),⟨R,h1.map fun x=>x.grown hT.gr hk (by decide),World.ownsRow.kept h2 hT.gr (ne h2)⟩,⟨vs,h3.map fun x=>x.grown hT.gr hk (by decide),World.ownsRow.kept h4 hT.gr (ne h4)⟩,h.below.grown hT.gr h.below.size (fun k e=>by cases e;exact h.hg),h.hg⟩
theorem ApO.appOut (h:ApO w wr g gb pv ov bv pl G G' s) {R:List Gw} (hR:GwsAre wr R G) (ho:wr.ownsRow (g+1) 64 34 ov G.length (R.flatMap Gw.cells)) {r:Gw} {q:G0} (hq:C9g wr r q) {A:Option Addr} {c:Nat}
 (h8:w'.ownsRow (g+1) 64 34 (.slice A (G.length+1) c) (G.length+1) (R.flatMap Gw.cells++r.cells)) (hB:Below (g+1) wr w') (hg8:wr.grownBy w' ov.ownBlock) :
 ApO w w' g gb pv (.slice A (G.length+1) c) bv pl (G++[q]) G' s:=by
 have hk:=Ae ho;obtain⟨vs,h3,h4⟩:=h.bat;refine ⟨h.rd.below hB (by omega),h.box.grown hg8 (hk.ne (Fw h.box) (by decide)),h.part.grown hg8 hk (by decide),⟨R++[r],(hR.map fun x=>x.grown hg8 hk (by decide)).snoc ⟨hq.1,hq.2.1,hq.2.2.1.grown hg8 hk (by decide),hq.2.2.2⟩,?_⟩,⟨vs,h3.map fun x=>x.grown hg8 hk (by decide),World.ownsRow.kept h4 hg8 (Fb h4 ho (by decide))⟩,h.below.trans (hB.mono (by have:=h.hg;omega)),h.hg⟩;rw[List.length_append,List.length_singleton];simpa using h8
theorem ApO.appBat (h:ApO w wr g gb pv ov bv pl G G' s) {vs:List Value} (hV:BysAre wr vs G') (ho:wr.ownsRow (g+1) 29 1 bv G'.length vs) {v:Value} {q:G0} (hq:ByT wr v q.2.2) {A:Option Addr} {c:Nat}
 (h8:w'.ownsRow (g+1) 29 1 (.slice A (G'.length+1) c) (G'.length+1) (vs++[v])) (hB:Below (g+1) wr w') (hg8:wr.grownBy w' bv.ownBlock) :
 ApO w w' g gb pv ov (.slice A (G'.length+1) c) pl G (G'++[q]) s:=by
 have hk:=Ae ho;obtain⟨R,h1,h2⟩:=h.out;refine ⟨h.rd.below hB (by omega),h.box.grown hg8 (hk.ne (Fw h.box) (by decide)),h.part.grown hg8 hk (by decide),⟨R,h1.map fun x=>x.grown hg8 hk (by decide),World.ownsRow.kept h2 hg8 (Fb h2 ho (by decide))⟩,⟨vs++[v],(hV.map fun x=>x.grown hg8 hk (by decide)).snoc (hq.grown hg8 hk (by decide)),?_⟩,h.below.trans (hB.mono (by have:=h.hg;omega)),h.hg⟩;rw[List.length_append,List.length_singleton];exact h8
end
section
theorem C8r {rec:List Bool→List UInt8→Except Nat (Pt×List UInt8)} (hr:∀way b m,rec way b=.error m→m≠0) (way:List Bool) (b:List UInt8) (m:Nat) (h:rd1 rec way b=.error m):m≠0:=by
 cases b with
 | nil=>injection h with h;omega
 | cons k b=>
  simp only[rd1]at h;split at h
  ·cases h
  ·split at h
   ·split at h
    ·injection h with h;omega
    ·split at h
     ·cases h
     ·injection h with h;omega
   ·split at h
    ·split at h
     ·rename_i e he
      injection h with h;subst h;exact hr _ _ _ he
     ·split at h
      ·rename_i e he
       injection h with h;subst h;exact hr _ _ _ he
      ·split at h
       ·injection h with h;omega
       ·cases h
    ·split at h
     ·split at h
      ·injection h with h;omega
      ·cases h
     ·injection h with h;omega
theorem C6m:∀(f:Nat) (way:List Bool) (b:List UInt8) (m:Nat),rd f way b=.error m→m≠0
 | 0=>C8r fun _ _ m h=>by injection h with h;omega
 | f+1=>C8r (C6m f)
theorem Uz {l:List UInt8} {m:Nat} (h:Dd l=.error m):m≠0:=by
 unfold Dd at h;split at h
 ·rename_i n he
  injection h with h;subst h;exact C6m _ _ _ _ he
 ·cases h
 ·injection h with h;omega
theorem D7z (s:RS):(Xy s).length≤1048576:=by
 have h:byN s≤1048576:=Kg _ _;unfold Xy Lw;split
 ·rw[List.length_take];omega
 ·simp
theorem B9n:∀(n:Nat) (s:RS) (out:List G0),(∀q∈out,q.2.2.length≤1048576)→∀q∈(Lx n s out).1,q.2.2.length≤1048576
 | 0,_,_,h=>h
 | n+1,s,out,h=>by
  unfold Lx;split
  ·refine B9n n _ _ fun q hq=>?_;rcases List.mem_append.1 hq with hq | hq
   ·exact h q hq
   ·obtain rfl:=List.mem_singleton.1 hq;exact D7z _
  ·exact h
def UsK (w:World) (v:Value) (us:List UV):Prop:=US w w.heap.size v us∧Mb w v.ownBlock 48
theorem UsK.up {w w':World} {v:Value} {us:List UV} (h:UsK w v us) (hb:Below w.heap.size w w'):UsK w' v us:=⟨(h.1.below hb).more hb.size,h.2.up hb⟩
def B1p (w:World) (r:Gw) (q:Gr):Prop:=r.id=q.1∧q.1.length=32∧HsK w r.s.v q.2.1∧UsK w r.m.v q.2.2
def GosAre (w:World):List Gw→List Gr→Prop
 | [],[]=>True
 | r::R,q::L=>B1p w r q∧GosAre w R L
 | _,_=>False
def Vf (w:World) (v:Value) (gs:List Gr):Prop:=∃R,GosAre w R gs∧w.ownsRow 0 64 34 v gs.length (R.flatMap Gw.cells)
def D4y (w:World) (p:Pt) (gv:Value) (e:Int):Except Int (Pt×List Gr)→Prop
 | .error e'=>e=e'∧p=.e∧gv=.slice none 0 0
 | .ok (p',gs)=>e=0∧p=p'∧Vf w gv gs
theorem GosAre.map {w w':World} (f:∀ {v:Value} {ks:List (List UInt8)},HsK w v ks→HsK w' v ks) (f2:∀ {v:Value} {us:List UV},UsK w v us→UsK w' v us):∀ {R:List Gw} {L:List Gr},GosAre w R L→GosAre w' R L
 | [],[],_=>trivial
 | _::_,_::_,h=>⟨⟨h.1.1,h.1.2.1,f h.1.2.2.1,f2 h.1.2.2.2⟩,GosAre.map f f2 h.2⟩
 | [],_::_,h=>h.elim
 | _::_,[],h=>h.elim
theorem GosAre.snoc {w:World} {r:Gw} {q:Gr}:∀ {R:List Gw} {L:List Gr},GosAre w R L→B1p w r q→GosAre w (R++[r]) (L++[q])
 | [],[],_,h=>⟨h,trivial⟩
 | _::_,_::_,h,k=>⟨h.1,GosAre.snoc h.2 k⟩
 | [],_::_,h,_=>h.elim
 | _::_,[],h,_=>h.elim
theorem GosAre.cells {w:World}:∀ {R:List Gw} {L:List Gr},GosAre w R L→(R.flatMap Gw.cells).length=L.length*34
 | [],[],_=>rfl
 | r::R,q::L,h=>by
  rw[List.flatMap_cons,List.length_append,GosAre.cells h.2,Gw.len (by rw[h.1.1];exact h.1.2.1),List.length_cons];omega
 | [],_::_,h=>h.elim
 | _::_,[],h=>h.elim
structure MoI (w wr : World) (g gp : Nat) (p : Pt) (ov bv : Value) (G : List G0) (gs : List Gr) (G2 : List G0) : Prop where
 part:Bk wr gp 122 [p.val]
 out:∃R1 R2,GosAre wr R1 gs∧GwsAre wr R2 G2∧wr.ownsRow (g+1) 64 34 ov G.length ((R1++R2).flatMap Gw.cells)
 bat:∃vs,BysAre wr vs G∧wr.ownsRow (g+1) 29 1 bv G.length vs
 below:Below w.heap.size w wr
 split:∃G1,G=G1++G2∧G1.length=gs.length
 hg:w.heap.size≤g
section
variable {w wr w' : World} {g gp : Nat} {p : Pt} {ov bv : Value} {G G2 : List G0} {gs : List Gr}
theorem MoI.start {gb:Nat} {pv:Value} {pl:List UInt8} {s:RS} (h:ApO w wr g gb pv ov bv pl G G s) (hp:Bk wr gp 122 [p.val]):MoI w wr g gp p ov bv G [] G:=by
 obtain⟨R,h1,h2⟩:=h.out;exact ⟨hp,⟨[],R,trivial,h1,h2⟩,h.bat,h.below,⟨[],rfl,rfl⟩,h.hg⟩
theorem MoI.up (h:MoI w wr g gp p ov bv G gs G2) (hb:Below wr.heap.size wr w'):MoI w w' g gp p ov bv G gs G2:=by
 obtain⟨R1,R2,h1,h2,h5⟩:=h.out;obtain⟨vs,h3,h4⟩:=h.bat;exact ⟨h.part.below hb h.part.lt,⟨R1,R2,h1.map (fun x=>x.up hb) (fun x=>x.up hb),h2.map fun x=>x.up hb,Q7 h5 hb (Nat.le_refl _)⟩,⟨vs,h3.map fun x=>x.up hb,Q7 h4 hb (Nat.le_refl _)⟩,C0 h.below hb h.below.size,h.split,h.hg⟩
theorem BysAre.at_:∀ {R:List Value} {A:List G0} {q:G0} {B:List G0},BysAre w R (A++q::B)→∃v,R[A.length]?=some v∧ByT w v q.2.2
 | v::_,[],_,_,h=>⟨v,rfl,h.1⟩
 | [],[],_,_,h=>h.elim
 | _::R,_::A,q,B,h=>by
  obtain⟨v,h1,h2⟩:=BysAre.at_ (R:=R) (A:=A) h.2;exact ⟨v,by simpa using h1,h2⟩
 | [],_::_,_,_,h=>h.elim
theorem MoI.len (h:MoI w wr g gp p ov bv G gs G2):G.length=gs.length+G2.length:=by
 obtain⟨G1,h1,h2⟩:=h.split;rw[h1,List.length_append,h2]
theorem MoI.next {q:G0} {G3:List G0} (h:MoI w wr g gp p ov bv G gs (q::G3)):∃b c A c',bv=.slice (some ⟨b,0,none⟩) G.length c∧wr.cell? ⟨b,gs.length,none⟩=some (.slice A q.2.2.length c')∧By wr 0 wr.heap.size (.slice A q.2.2.length c') q.2.2:=by
 obtain⟨vs,h3,h4⟩:=h.bat;obtain⟨G1,h1,h2⟩:=h.split;have hl:=h.len;obtain⟨b,c,rfl⟩:∃b c,bv=.slice (some ⟨b,0,none⟩) G.length c:=by
  rcases h4.2 with ⟨_,h⟩ | ⟨b,c,_,h,_⟩
  ·simp at hl;omega
  ·exact ⟨b,c,h⟩
 rw[h1]at h3;obtain⟨v,hv,hb⟩:=BysAre.at_ h3;obtain⟨A,c',e,_⟩:=hb.1;rw[List.length_map]at e;refine ⟨b,c,A,c',rfl,?_,by rw[←e];exact hb.1⟩;rw[h4.cellAt gs.length (by simp at hl;omega),←h2,hv,e]
theorem MoI.row {q:G0} {G3:List G0} (h:MoI w wr g gp p ov bv G gs (q::G3)):∃b c,ov=.slice (some ⟨b,0,none⟩) G.length c∧wr.cell? ⟨b,gs.length*34+33,none⟩=some (.slice none 0 0)∧wr.frozen? ⟨b,gs.length*34+33,none⟩=false:=by
 obtain⟨R1,R2,h1,h2,h5⟩:=h.out;have hl:=h.len;obtain⟨b,c,rfl⟩:∃b c,ov=.slice (some ⟨b,0,none⟩) G.length c:=by
  rcases h5.2 with ⟨_,h⟩ | ⟨b,c,_,h,_⟩
  ·simp at hl;omega
  ·exact ⟨b,c,h⟩
 refine ⟨b,c,rfl,?_,h5.frozenAt _⟩;rw[h5.cellAt _ (by simp at hl;omega)];cases R2 with
 | nil=>exact h2.elim
 | cons r R3=>
  obtain⟨⟨e1,e2,_,e4⟩,_⟩:=h2;have hr:(c8 r.id).length=32:=by simp[e1,e2]
  rw[List.flatMap_append,List.getElem?_append_right (by rw[h1.cells];omega),h1.cells,List.flatMap_cons,Gw.cells,e4];rw[show gs.length*34+33-gs.length*34=33 by omega,List.append_assoc,List.getElem?_append_right (by rw[hr];omega),hr];rfl
theorem Gw.setM {r:Gw} (hr:r.id.length=32) (m:Sv) (tl:List Value):(r.cells++tl).set 33 m.v=Gw.cells { r with m:=m }++tl:=by
 have aA:(c8 r.id).length=32:=by simp[hr]
 unfold Gw.cells;rw[List.append_assoc,List.append_assoc,List.set_append_right _ _ (by rw[aA];omega),aA];rfl
theorem MoI.more {q:G0} {G3:List G0} (h:MoI w wr g gp p ov bv G gs (q::G3)) {b c:Nat} (ho:ov=.slice (some ⟨b,0,none⟩) G.length c) {us:List UV} {A:Option Addr} {n c':Nat} {B:Nat} (hu:OwnU wr B (.slice A n c') us) :
 MoI w (wr.setCell ⟨b,gs.length*34+33,none⟩ (.slice A n c')) g gp p ov bv G (gs++[(q.1,q.2.1,us)]) G3:=by
 obtain⟨R1,R2,h1,h2,h5⟩:=h.out;obtain⟨vs,h3,h4⟩:=h.bat;obtain⟨G1,e1,e2⟩:=h.split;cases R2 with
 | nil=>exact h2.elim
 | cons r R3=>
  obtain⟨hr,h2⟩:=h2;have hk:=Ae h5;have aA:=Fb h4 h5 (by decide);have aB:w.heap.size≤b:=by have:=(h5.lt b (by rw[ho];rfl)).1;have:=h.hg;omega
  subst ho;obtain⟨h6,h7⟩:=h5.stored (gs.length*34+33) (.slice A n c');have aC:UsK wr (.slice A n c') us:=⟨hu.us,Ae hu.2⟩;have f1:∀ {v:Value} {ks:List (List UInt8)},HsK wr v ks→HsK (wr.setCell ⟨b,gs.length*34+33,none⟩ (.slice A n c')) v ks:=fun x=>x.grown h7 hk (by decide);have f2:∀ {v:Value} {ks:List UV},UsK wr v ks→UsK (wr.setCell ⟨b,gs.length*34+33,none⟩ (.slice A n c')) v ks:=fun x=>⟨(x.1.grown h5 (by decide) h7).more h7.size,x.2.grown h7 hk (by decide)⟩;refine ⟨h.part.grown h7 (hk.ne (Fw h.part) (by decide)),⟨R1++[{ r with m:=⟨A,n,c'⟩ }],R3,(h1.map f1 f2).snoc (r:={ r with m:=⟨A,n,c'⟩ }) (q:=(q.1,q.2.1,us)) ⟨hr.1,hr.2.1,f1 hr.2.2.1,f2 aC⟩,h2.map f1,?_⟩,⟨vs,h3.map fun x=>x.grown h7 hk (by decide),World.ownsRow.kept h4 h7 aA⟩,?_,⟨G1++[q],by rw[e1];simp,by simp[e2]⟩,h.hg⟩
  ·have e:((R1++r::R3).flatMap Gw.cells).set (gs.length*34+33) (.slice A n c')=(R1++[{ r with m:=⟨A,n,c'⟩ }]++R3).flatMap Gw.cells:=by rw[List.flatMap_append,List.set_append_right _ _ (by rw[h1.cells];omega),h1.cells,List.flatMap_cons,show gs.length*34+33-gs.length*34=33 by omega];have:=Gw.setM (r:=r) (by rw[hr.1];exact hr.2.1) ⟨A,n,c'⟩ (R3.flatMap Gw.cells);unfold Sv.v at this;rw[this];simp
   rw[e]at h6;exact h6
  ·exact h.below.grown h7 h.below.size (fun k e=>by cases e;exact aB)
theorem MoI.fin (h:MoI w wr g gp p ov bv G gs []):Vf wr ov gs:=by
 obtain⟨R1,R2,h1,h2,h5⟩:=h.out;have hl:=h.len;cases R2 with
 | nil=>exact ⟨R1,h1,by rw[List.append_nil]at h5;rw[show gs.length=G.length by simpa using hl.symm];exact Km h5 (Nat.zero_le _)⟩
 | cons r R3=>exact h2.elim
theorem US.ty {W W':World} {row:Option Nat} {T:TypeId} {B:Nat} {v:Value} {us:List UV} (h:US W B v us) (hg:W.grownBy W' row) (hk:Mb W row T) (hT:48≠T):US W' B v us:=by
 rcases h with h | ⟨g,tl,c,h1,h2,h3⟩
 ·exact .inl h
 ·exact .inr ⟨g,tl,c,h1,⟨h2.1,h2.2.grown hg (hk.ne (Fw h2.2) hT)⟩,h3⟩
theorem UsK.grown {W W':World} {row:Option Nat} {T:TypeId} {v:Value} {us:List UV} (h:UsK W v us) (hg:W.grownBy W' row) (hk:Mb W row T) (hT:48≠T):UsK W' v us:=⟨(h.1.ty hg hk hT).more hg.size,h.2.grown hg hk hT⟩
theorem Vf.grown {W W':World} {row:Option Nat} {T:TypeId} {v:Value} {gs:List Gr} (h:Vf W v gs) (hg:W.grownBy W' row) (hk:Mb W row T) (h1:35≠T) (h2:48≠T) (h3:64≠T):Vf W' v gs:=by
 obtain⟨R,q1,q2⟩:=h;refine ⟨R,q1.map (fun x=>x.grown hg hk h1) (fun x=>x.grown hg hk h2),World.ownsRow.kept q2 hg ?_⟩;cases hv:v.ownBlock with
 | none=>exact .inl rfl
 | some b=>
  refine .inr ?_;have:=Ae q2;rw[hv]at this;exact hk.ne this h3
end
end
noncomputable def Cy (id:List UInt8) (p:Pt):List UV→List (List UInt8)→Except Int Pt
 | [],ks=>match p.put id (U0 ks) 256 0 with | some q=>.ok q | none=>.error 100
 | u::us,ks=>if u.id=id then (if Az ks u=0 then Cy id p us (Cn ks u) else .error (Az ks u)) else .error 110
noncomputable def Qd (p:Pt) (q:Gr):Except Int Pt:=
 if q.2.2=[] then .error 81 else
 if (p.get q.1 0).2.2=0 then
  (if ((p.get q.1 0).2.1 != decide (0<q.2.1.length))=true then .error 130
   else if (p.get q.1 0).2.1=true∧(p.get q.1 0).1≠U0 q.2.1 then .error 130
   else Cy q.1 p q.2.2 q.2.1) else .error ((p.get q.1 0).2.2:Int)
def D8a (q:Pt) (n:Int):Except Int Pt→Prop
 | .ok r=>q=r∧n=0
 | .error e=>n=e
theorem Ro {id:List UInt8} {p:Pt} {u:UV} {us:List UV} {ks:List (List UInt8)}:Cy id p (u::us) ks=if u.id=id then (if Az ks u=0 then Cy id p us (Cn ks u) else .error (Az ks u)) else .error 110:=by
 conv=>lhs;unfold Cy
theorem C6u {ks:List (List UInt8)} {u:UV} (h:Az ks u=0):(Cn ks u).length≤64∧Cn ks u=ks++[u.key]:=by
 cases hs:signedB u with
 | false=>rw[(B3r hs).2]at h;cases h
 | true=>
  by_cases h2:u.ver=(ks.length:Int)+1
  ·rw[(B3q hs h2).1];refine ⟨?_,rfl⟩;unfold signedB at hs;simp only[Bool.and_eq_true,decide_eq_true_eq]at hs;simp;omega
  ·rw[(B1s hs h2).2]at h;cases h
theorem B2i {id:List UInt8} {p:Pt}:∀ {us:List UV} {ks:List (List UInt8)} {e:Int},Cy id p us ks=.error e→e≠0
 | [],ks,e,h=>by
  unfold Cy at h;split at h
  ·cases h
  ·injection h with h;omega
 | u::us,ks,e,h=>by
  unfold Cy at h;split at h
  ·split at h
   ·exact B2i h
   ·rename_i hn
    injection h with h;rw[←h];exact hn
  ·injection h with h;omega
theorem B8h {p:Pt} {q:Gr} {e:Int} (h:Qd p q=.error e):e≠0:=by
 unfold Qd at h;split at h
 ·injection h with h;omega
 ·split at h
  ·split at h
   ·injection h with h;omega
   ·split at h
    ·injection h with h;omega
    ·exact B2i h
  ·rename_i hn
   injection h with h;rw[←h];omega
def A2r:Option (List UInt8)→List UInt8→Bool
 | none,_=>false
 | some x,y=>decide (0≤Lib.compareBytes x y)
noncomputable def Gy:Pt→Option (List UInt8)→List Gr→Except Int Pt
 | p,_,[]=>.ok p
 | p,pr,q::gs=>if A2r pr q.1=true then .error 81 else match Qd p q with
  | .error e=>.error e
  | .ok p'=>Gy p' (some q.1) gs
theorem A0b {p:Pt} {pr:Option (List UInt8)} {q:Gr} {gs:List Gr}:Gy p pr (q::gs)=if A2r pr q.1=true then .error 81 else match Qd p q with | .error e=>.error e | .ok p'=>Gy p' (some q.1) gs:=by
 conv=>lhs;unfold Gy
noncomputable def A2f (a b l:List UInt8):Int:=match Da l with
 | .error e=>e
 | .ok r=>if r.1.root≠a then 130 else match Gy r.1 none r.2 with
  | .error e=>e
  | .ok p=>if p.root≠b then 130 else 0
theorem A7w {b:List UInt8} {p:Pt} (h:Dd b=.ok p):p.Ok 0 (Ef []):=by
 unfold Dd at h;cases hr:rd 256 [] b with
 | error n=>rw[hr]at h;cases h
 | ok x=>
  obtain⟨q,aA⟩:=x;rw[hr]at h;cases aA with
  | cons _ _=>cases h
  | nil=>
   injection h with h;subst h;exact (B3f 256 [] b q [] rfl hr).2.1
theorem B9g:∀(n:Nat) (s:RS) (ks:List (List UInt8)),(Mp n s ks).1.length≤ks.length+n
 | 0,_,_=>Nat.le_refl _
 | n+1,s,ks=>by
  unfold Mp;split
  ·have:=B9g n (Z9 32 s) (ks++[Pz s]);simp at this;omega
  ·simp
theorem A4m:∀(n:Nat) (s:RS) (out:List G0),(∀q∈out,q.2.1.length≤65536)→∀q∈(Lx n s out).1,q.2.1.length≤65536
 | 0,_,_,h=>h
 | n+1,s,out,h=>by
  unfold Lx;split
  ·refine A4m n _ _ fun q hq=>?_;rcases List.mem_append.1 hq with hq | hq
   ·exact h q hq
   ·obtain rfl:=List.mem_singleton.1 hq;have h1:=B9g (Ie (Z9 32 s)) (Jm (Z9 32 s)) [];have h2:=Kg 65536 (Z9 32 s);simp only[List.length_nil,Nat.zero_add]at h1;exact Nat.le_trans h1 h2
  ·exact h
theorem B9s:∀(n:Nat) (s:RS) (us:List UV) (f:Bool),(Vw n s us f).1.length≤us.length+n
 | 0,_,_,_=>Nat.le_refl _
 | n+1,s,us,f=>by
  unfold Vw;split
  ·have:=B9s n (B3s s) (us++[A2v s]) (f||B3n s);simp at this;omega
  ·simp
theorem C2y (l:List UInt8):(Ew l).1.length≤65536:=by
 have h1:=B9s (Ie (l,0)) (Jm (l,0)) [] false;have h2:=Kg 65536 (l,0);simp only[List.length_nil,Nat.zero_add]at h1;unfold Ew;dsimp only;split
 ·split
  ·simp
  ·exact Nat.le_trans h1 h2
 ·simp
theorem A4j:∀ {L:List G0} {acc gs:List Gr},(∀q∈acc,q.2.2.length≤65536)→El L acc=.ok gs→∀q∈gs,q.2.2.length≤65536
 | [],acc,gs,h,e=>by injection e with e;subst e;exact h
 | q::L,acc,gs,h,e=>by
  unfold El at e;split at e
  ·refine A4j (fun x hx=>?_) e;rcases List.mem_append.1 hx with hx | hx
   ·exact h x hx
   ·obtain rfl:=List.mem_singleton.1 hx;exact C2y _
  ·cases e
theorem A2t:∀ {L:List G0} {acc gs:List Gr},(∀q∈L,q.2.1.length≤65536)→(∀q∈acc,q.2.1.length≤65536)→El L acc=.ok gs→∀q∈gs,q.2.1.length≤65536
 | [],acc,gs,_,h,e=>by injection e with e;subst e;exact h
 | q::L,acc,gs,hL,h,e=>by
  unfold El at e;split at e
  ·refine A2t (fun x hx=>hL x (List.mem_cons_of_mem _ hx)) (fun x hx=>?_) e;rcases List.mem_append.1 hx with hx | hx
   ·exact h x hx
   ·obtain rfl:=List.mem_singleton.1 hx;exact hL q (by simp)
  ·cases e
theorem C2p {l:List UInt8} {p:Pt} {gs:List Gr} (h:Da l=.ok (p,gs)):p.Ok 0 (Ef [])∧∀q∈gs,q.2.1.length≤65536∧q.2.2.length≤65536:=by
 unfold Da at h;dsimp only at h;split at h
 ·split at h
  ·cases h
  ·rename_i p' hp
   split at h
   ·cases h
   ·rename_i gs' hm
    injection h with h;injection h with h1 h2;subst h1 h2;exact ⟨A7w hp,fun q hq=>⟨A2t (A4m _ _ [] (by simp)) (by simp) hm q hq,A4j (by simp) hm q hq⟩⟩
 ·cases h
theorem B1y:∀ {L:List G0} {acc:List Gr} {e:Int},El L acc=.error e→e≠0
 | [],acc,e,h=>by cases h
 | q::L,acc,e,h=>by
  unfold El at h;split at h
  ·exact B1y h
  ·rename_i hn
   injection h with h;rw[←h];exact hn
theorem A3h {l:List UInt8} {e:Int} (h:Da l=.error e):e≠0:=by
 unfold Da at h;dsimp only at h;split at h
 ·split at h
  ·rename_i m hp
   injection h with h;have:=Uz hp;omega
  ·split at h
   ·rename_i e' hm
    injection h with h;subst h;exact B1y hm
   ·cases h
 ·rename_i hn
  injection h with h;rw[←h];exact hn
theorem B3k {id:List UInt8} (hid:id.length=32) {p p':Pt} (ok:p.Ok 0 (Ef [])):∀ {us:List UV} {ks:List (List UInt8)},Cy id p us ks=.ok p'→p'.Ok 0 (Ef [])
 | [],ks,h=>by
  unfold Cy at h;split at h
  ·rename_i q hq
   injection h with h;subst h;exact (Pt.Ok.put hid (T7 ks) 256 0 p q (Ef []) rfl (fun i hi=>by omega) ok hq).1
  ·cases h
 | u::us,ks,h=>by
  rw[Ro]at h;split at h
  ·split at h
   ·exact B3k hid ok h
   ·cases h
  ·cases h
theorem D2j {p p':Pt} {q:Gr} (hid:q.1.length=32) (ok:p.Ok 0 (Ef [])) (h:Qd p q=.ok p'):p'.Ok 0 (Ef []):=by
 unfold Qd at h;split at h
 ·cases h
 ·split at h
  ·split at h
   ·cases h
   ·split at h
    ·cases h
    ·exact B3k hid ok h
  ·cases h
end Go.Proofs.YtdfpoofbgjilgaaGreat
