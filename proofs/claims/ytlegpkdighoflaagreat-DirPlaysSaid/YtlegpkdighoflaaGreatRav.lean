/- A part of the proof of DirPlays. -/
import Derived.Test.YtlegpkdighoflaaGreatRau
set_option linter.unusedVariables false
set_option linter.unusedSimpArgs false
set_option maxRecDepth 100000
set_option maxHeartbeats 40000000
namespace Go.Proofs.YtlegpkdighoflaaGreat
open Go Go.RowKit Sh
theorem E8i (x y:UInt8):Op.intArith .sub .u8 (n8 x) (n8 y)=pure (.int .u8 (n8 (x-y))):=by
 unfold Op.intArith n8;have hx:=lt8 x;have hy:=lt8 y;have e:IntKind.u8.wrap ((x.toNat:Int)-(y.toNat:Int))=(((256-y.toNat+x.toNat) % 256:Nat):Int):=by
  simp only[IntKind.wrap,IntKind.bits,IntKind.signed,Bool.false_and,Bool.false_eq_true,if_false];omega
 rw[e,UInt8.toNat_sub]
@[go_sem ↓ high] theorem F6g (x : UInt8) : Op.intArith .sub .u8 (n8 x) 97 = pure (.int .u8 (n8 (x - 97))) := E8i x 97
@[go_sem ↓ high] theorem F6b (x : UInt8) : Op.intArith .sub .u8 (n8 x) 48 = pure (.int .u8 (n8 (x - 48))) := E8i x 48
@[go_sem ↓ high] theorem F4v (x : UInt8) : Op.intArith .add .u8 (n8 x) 10 = pure (.int .u8 (n8 (x + 10))) := F7p x 10
def Un (c:UInt8):UInt8:=if 97≤c.toNat then c-97+10 else c-48
theorem A2r (c:UInt8) (w:World):Calls Tryz.prog 147 #[.int .u8 (n8 c)] w fun e w'=>e=.returned (.int .u8 (n8 (Un c)))∧Below w.heap.size w w':=by
 by_cases h:97≤c.toNat
 ·have h1:97≤n8 c:=by unfold n8;omega
  have HN:Hid (Un c=c-97+10):=Lib.hid (if_pos h);clear h;go_enter Tryz.func147,Tryz.ntmps147;go_wp2_with fail;go_ret;exact ⟨by rw[HN.out];rfl,Below.refl _ _⟩
 ·have h1:n8 c<97:=by unfold n8;omega
  have HN:Hid (Un c=c-48):=Lib.hid (if_neg h);clear h;go_enter Tryz.func147,Tryz.ntmps147;go_wp2_with fail;go_ret;exact ⟨by rw[HN.out];rfl,Below.refl _ _⟩
noncomputable def A1s:ByteArray:=match Tryz.f146.body with
 | some (.seq _ (.seq (.region _ ops _) _))=>(match ops[0]? with
  | some o=>(match o.op with | .assign (.const (.string b))=>b | _=>⟨#[]⟩)
  | none=>⟨#[]⟩)
 | _=>⟨#[]⟩
noncomputable def Q9:List UInt8:=A1s.data.toList
theorem A6k:Q9.length=4096:=by kernel_rfl
theorem B9m : Tryz.f146.body = some (Code.seq (Code.region 0 #[{ dst := some 0, op := .assign (.const (.string ⟨#[]⟩)), type := 9, pos := "curve.go:119", after := #[], guard := none }] false)
 (Code.seq (Code.region 1 #[{ dst := some 0, op := .assign (.const (.string A1s)), type := 9, pos := "curve.go:120", after := #[], guard := none }] false) Code.ret)) := by kernel_rfl
theorem D1c:Value.string A1s=S8 Q9:=rfl
attribute [irreducible] A1s Q9
theorem C3k (w:World):Calls Tryz.prog 146 #[] w fun e w'=>e=.returned (S8 Q9)∧Below w.heap.size w w':=by
 refine calls_of_wp Tryz.func146 B9m ?_;simp only[Tryz.ntmps146,List.size_toArray,List.length_cons,List.length_nil,Nat.reduceAdd,Nat.reduceSub,Array.replicate_succ,
  Array.replicate_zero,List.push_toArray,List.append_toArray,List.nil_append,List.cons_append]
 have HS:=Lib.hid D1c;go_wp2_with fail;go_ret;exact ⟨by rw[←HS.out];rfl,Below.refl _ _⟩
def E1m (w:World) (raw:Result Next):Value→Value→Result Next
 | .string s,.int _ i=>if 0≤i∧i<s.data.toList.length then .ok (.value (.int .u8 (n8 (g8 s.data.toList i.toNat)))) w else raw
 | _,_=>raw
@[go_sem] theorem F4w (w : World) (raw : Result Next) (l : List UInt8) (k : IntKind) (i : Int) : E1m w raw (S8 l) (.int k i) = if 0 ≤ i ∧ i < l.length then .ok (.value (.int .u8 (n8 (g8 l i.toNat)))) w else raw := rfl
@[go_sem ↓ high] theorem E5l (w : World) (ρ : Operand → Value) (dst : Option Tmp) (ty : TypeId) (pos : String) (after : Array Edge) (guard : Option (Nat × Bool)) (x ix : Operand) :
 (execOp ρ { dst,op:=.index 9 x ix,type:=ty,pos,after,guard }).run Tryz.prog w=E1m w (L3 Tryz.prog ρ { dst,op:=.index 9 x ix,type:=ty,pos,after,guard } w) (ρ x) (ρ ix):=by
 generalize hv:ρ x=v;generalize hz:ρ ix=z;unfold E1m;split
 ·rename_i s kk i
  split
  ·rename_i hc
   have hs:s.size=s.data.toList.length:=rfl;have hi:0≤i∧i<s.size:=by omega
   have e1:=run_index_string (P:=Tryz.prog) w 9 s kk i Tryz.underlying9;rw[dif_pos hi]at e1;simp only[execOp,hv,hz,Sem.run_bind,e1,Result.andThen_ok,Sem.run_pure];have e2:((s[i.toNat]'(by omega)).toNat:Int)=n8 (g8 s.data.toList i.toNat):=by
    have hl:i.toNat<s.data.toList.length:=by omega
    unfold g8 n8;rw[List.getD_eq_getElem?_getD,List.getElem?_eq_getElem hl];show ((s.data[i.toNat]'(by omega)).toNat:Int)=_;simp
   rw[e2]
  ·rfl
 ·rfl
theorem D5h:((Tryz.prog.info? 226).bind (·.zero))=some (A8 (z8 64)):=by kernel_rfl
@[go_sem ↓ high] theorem E7j:RA' 226 (c8 (z8 64)).toArray:=fun w ρ dst ty pos after guard=>O9 w ρ dst ty pos after guard 226 (A8 (z8 64)) D5h
def C6 (l:List UInt8) (o:Nat):List UInt8:=(l.drop o).take 32
theorem Jz {l:List UInt8} (hl:l.length=64) (o:Nat) (ho:o≤32):(C6 l o).length=32:=by unfold C6;simp;omega
theorem Bk.xyAt {w:World} {g:Nat} {t:TypeId} {l:List UInt8} (K:Bk w g t (c8 l)) (hl:l.length=64) (o:Nat) (ho:o≤32):C8 w ⟨g,o,none⟩ 32=some (c8 (C6 l o)):=by
 unfold C6;rw[K.rowMid o 32 (by simp;omega)];simp[c8]
noncomputable def Dt (i k:Nat):UInt8:=Un (g8 Q9 (128*i+2*k)) <<< 4 ||| Un (g8 Q9 (128*i+2*k+1))
noncomputable def C2g (i:Nat):List UInt8:=Kc (Dt i) 64 64
noncomputable def Ni (i:Nat):Pn:=Cx (Z2 (C6 (C2g i) 0)) (Z2 (C6 (C2g i) 32))
theorem Oi (i:Nat):(Ni i).Ok:=Ex (M7 _) (M7 _)
theorem D2x {i:Nat} (h:i<32):(Lw Ni 32 i).set i (Cx (Z2 (C6 (Kc (Dt i) 64 64) 0)) (Z2 (C6 (Kc (Dt i) 64 64) 32)))=Lw Ni 32 (i+1):=C8p h rfl
noncomputable def Nf:List Pn:=Lw Ni 32 32
theorem Ko:Mo Nf:=Mt Oi 32 32
@[simp, go_sem] theorem B5q : Nf.length = 32 := A0m _ _ _
theorem D7c {i:Nat} (hi:i<32):U6 Nf i=Ni i:=by unfold Nf;rw[C2e hi,if_pos hi]
theorem B6s (w:World):Calls Tryz.prog 126 #[] w fun e w'=>e=.returned (H8 (Pl Nf))∧Below w.heap.size w w':=by
 obtain⟨W0,cN⟩:=E9 ((w.alloc (Obj.cells (C9 (M1 640)).toArray 205)));have hL:W0=O8 w [(205,(C9 (M1 640)))]:=cN;have B0:=Rf hL;have bJ:=Um hL rfl;have z0:=ZL' 1 hL rfl;have cW:=SL' 1 hL rfl;clear hL;obtain⟨V1,bH⟩:=E9 (W0.alloc (Obj.cells (C9 (M1 640)).toArray 205));have cX:W0.heap.size=w.heap.size+1:=cW;have aJ:Bk V1 (w.heap.size+1) 205 (C9 (M1 640)):=by rw[bH,←cX];exact Bk.new W0 _ _
 have aS:=Ed bH bJ;have cY:=Uo bH B0;clear cX;go_enter Tryz.func126,Tryz.ntmps126;go_wp2_with fail;rw[←cN,←bH];have cZ:=ZA' bH z0;clear cN bH cW bJ B0 z0;rw[←E2s Ni]at aJ;go_wp2_with fail;refine (C3k V1).mono ?_;rintro e W2 ⟨rfl,b3⟩;have B2:=Q5 cY b3;have z2:=Nat.le_trans cZ b3.size;have bK:=aS.bl b3;have bL:=aJ.bl b3;clear b3 cY cZ aS aJ;go_wp2_with fail;go_loopw [8] (fun x8 wr=>∃i:Nat,0≤i∧i≤32∧x8=.int .i64 (i:Int)∧Bk wr (w.heap.size) 205 (C9 (M1 640))∧Bk wr (w.heap.size+1) 205 (C9 (Pl (Lw Ni 32 i)))∧Below w.heap.size w wr∧w.heap.size+1≤wr.heap.size) (fun x8 _=>32-(intOf x8).toNat)
 case atStart=>exact ⟨0,by omega,by omega,rfl,bK,bL,B2,z2⟩
 case round=>
  clear B2 z2 bK bL;obtain⟨i,eL,hi,rfl,aB,aC,aX,aP⟩:=hrel;by_cases hlti:i<32
  ·
   have eM:decide ((i:Int)<32)=true:=decide_eq_true (by omega);obtain⟨V4,aY⟩:=E9 (wr.alloc (Obj.cells (c8 (z8 64)).toArray 226));have bM:wr.heap.size=wr.heap.size:=rfl;have aH:Bk V4 (wr.heap.size) 226 (c8 (z8 64)):=by rw[aY,←bM];exact Bk.new wr _ _
   have aT:=Ed aY aB;have aU:=Ed aY aC;have dC:=Uo aY aX;have aK:=Et bM aB;have aL:=Et bM aC;have bN:w.heap.size+1≤wr.heap.size:=by rw[←bM];exact Nat.le_trans aP (Nat.le_refl _)
   clear bM;go_wp2_with fail;rw[←aY];obtain⟨p5,cO⟩:=E9 (wr.heap.size);rw[←cO]at aH aK aL bN;try rw[←cO]
   have dD:=ZA' aY aP;clear aY cO aP;rw[←Zs (f:=Dt i)]at aH;go_wp2_with fail;go_loopw [11] (fun x11 wr=>∃k:Nat,0≤k∧k≤64∧x11=.int .i64 (k:Int)∧Bk wr (w.heap.size) 205 (C9 (M1 640))∧Bk wr (w.heap.size+1) 205 (C9 (Pl (Lw Ni 32 i)))∧Bk wr (p5) 226 (c8 (Kc (Dt i) 64 k))∧Below w.heap.size w wr∧w.heap.size+1≤wr.heap.size) (fun x11 _=>64-(intOf x11).toNat)
   case atStart=>exact ⟨0,by omega,by omega,rfl,aT,aU,aH,dC,dD⟩
   case round=>
    clear dC dD aT aU aH;obtain⟨k,eN,hk,rfl,aB,aC,aD,aX,aP⟩:=hrel;by_cases hltk:k<64
    ·
     have eO:decide ((k:Int)<64)=true:=decide_eq_true (by omega);obtain⟨aA,bO⟩:=E9 (128*i+2*k);have eP:128*(i:Int)+2*(k:Int)=(aA:Int):=by omega
     have dS:((aA:Int)+1).toNat=aA+1:=by omega
     have dT:=A6k;have eQ:aA+1<Q9.length:=by omega
     have dU:(aA:Int)+1<(Q9.length:Int):=by omega
     have dF:(aA:Int)<(Q9.length:Int):=by omega
     obtain⟨qq,dW⟩:=E9 (k / 32);obtain⟨rr,dX⟩:=E9 (k % 32);have eS:(k:Int) / 32=(qq:Int):=by omega
     have eT:(k:Int) % 32=(rr:Int):=by omega
     have dY:Int.tmod (k:Int) 32=(rr:Int):=by rw[Int.tmod_eq_emod_of_nonneg (by omega)];omega
     have dZ:qq<2:=by omega
     have eA:rr<32:=by omega
     have dG:qq*32+rr=k:=by omega
     have eB:=Lib.hid dG;have HA:Hid (Dt i k=Un (g8 Q9 aA) <<< 4 ||| Un (g8 Q9 (aA+1))):=Lib.hid (by rw[bO];rfl);clear bO dW dX dT dG;go_wp2_with fail;have S6:=Kg wr;refine Jh (fun W=>True) ?_;refine Fs (A:=?eU) [0,1,2,3,4,5,6,9,10,11,12,15] trivial (fun W hW=>?eC) ?eV;case eC=>exact Gq
     refine N8 [zv 7 26 (.int .u8 (n8 (Un (g8 Q9 aA)))),zv 8 27 (.int .u8 (n8 (Un (g8 Q9 aA) <<< 4))),zv 13 32 (.int .u8 (n8 (Un (g8 Q9 (aA+1))))),zv 14 33 (.int .u8 (n8 (Un (g8 Q9 aA) <<< 4 ||| Un (g8 Q9 (aA+1))))),zv 16 35 (.pointer (some ⟨p5,qq*32+rr,none⟩))] (by kernel_rfl) (fun W hW=>trivial) ?bP ?bQ ?bR;case bP=>exact MO'
     case bQ=>
      refine (Z3 ⟨?cP,(Z3 ⟨?cQ,(Z3 ⟨?bS,(Z3 ⟨?bT,(Z3 ⟨?bU,Zh⟩)⟩)⟩)⟩)⟩);case cP=>
       exact KC' fun W=>A2r (g8 Q9 aA) W
      case cQ=>intro o ho us W hW hp Q' hQ';obtain rfl:=Option.some.inj ho;have aI:us 7=(.int .u8 (n8 (Un (g8 Q9 aA)))):=hp 0 _ rfl (by kernel_rfl);clear hp ho;rw[C1]at hQ' ⊢;dsimp only[C7,E5,List.foldl,zv,za]at hQ' ⊢;simp only[Cy];rw[aI]at hQ' ⊢;clear aI;go_wp2_with fail;exact Ea (hQ' _ _ (Below.refl _ _) rfl nofun)
      case bS=>exact D4r fun W=>A2r (g8 Q9 (aA+1)) W
      case bT=>intro o ho us W hW hp Q' hQ';obtain rfl:=Option.some.inj ho;have aM:us 8=(.int .u8 (n8 (Un (g8 Q9 aA) <<< 4))):=hp 1 _ rfl (by kernel_rfl);have aE:us 13=(.int .u8 (n8 (Un (g8 Q9 (aA+1))))):=hp 2 _ rfl (by kernel_rfl);clear hp ho;rw[C1]at hQ' ⊢;dsimp only[C7,E5,List.foldl,zv,za]at hQ' ⊢;simp only[Cy];rw[aM,aE]at hQ' ⊢;clear aM aE;go_wp2_with fail;exact Ea (hQ' _ _ (Below.refl _ _) rfl nofun)
      case bU=>intro o ho us W hW hp Q' hQ';obtain rfl:=Option.some.inj ho;have aI:us 7=(.int .u8 (n8 (Un (g8 Q9 aA)))):=hp 0 _ rfl (by kernel_rfl);have aM:us 8=(.int .u8 (n8 (Un (g8 Q9 aA) <<< 4))):=hp 1 _ rfl (by kernel_rfl);have aE:us 13=(.int .u8 (n8 (Un (g8 Q9 (aA+1))))):=hp 2 _ rfl (by kernel_rfl);have aN:us 14=(.int .u8 (n8 (Un (g8 Q9 aA) <<< 4 ||| Un (g8 Q9 (aA+1))))):=hp 3 _ rfl (by kernel_rfl);clear hp ho;rw[C1]at hQ' ⊢;dsimp only[C7,E5,List.foldl,zv,za]at hQ' ⊢;simp only[Cy];rw[aI,aM,aE,aN]at hQ' ⊢;clear aI aM aE aN;go_wp2_with fail;exact Ea (hQ' _ _ (Below.refl _ _) rfl nofun)
     case bR=>
     intro us W7 b8 hg aZ cR;have aI:us 7=(.int .u8 (n8 (Un (g8 Q9 aA)))):=hg _ (Ca 0 rfl);have aM:us 8=(.int .u8 (n8 (Un (g8 Q9 aA) <<< 4))):=hg _ (Ca 1 rfl);have aE:us 13=(.int .u8 (n8 (Un (g8 Q9 (aA+1))))):=hg _ (Ca 2 rfl);have aN:us 14=(.int .u8 (n8 (Un (g8 Q9 aA) <<< 4 ||| Un (g8 Q9 (aA+1))))):=hg _ (Ca 3 rfl);have bV:us 16=(.pointer (some ⟨p5,qq*32+rr,none⟩)):=hg _ (Ca 4 rfl);have b9:=Q5 S6 b8;refine RP' ?_;rw[aI,aM,aE,aN,bV];clear hg aZ cR aI aM aE aN bV b8 S6;have B7:=Q5 aX b9;have z7:=Nat.le_trans aP b9.size;have bX:=aB.bl b9;have bY:=aC.bl b9;have aQ:=aD.bl b9;clear b9 aX aP aB aC aD;obtain⟨dI,aF⟩:=E9 (W7.setCell ⟨p5,qq*32+rr,none⟩ (.int .u8 (n8 (Un (g8 Q9 aA) <<< 4 ||| Un (g8 Q9 (aA+1))))));have bZ:Bk dI (p5) 226 (c8 ((Kc (Dt i) 64 k).set (qq*32+rr) (Un (g8 Q9 aA) <<< 4 ||| Un (g8 Q9 (aA+1))))):=by have:=aQ.set_ (qq*32+rr) (.int .u8 (n8 (Un (g8 Q9 aA) <<< 4 ||| Un (g8 Q9 (aA+1)))));rw[Gx]at this;rw[aF];exact this
     have cA:=KS' aF bX (by omega);have cB:=KS' aF bY (by omega);have eD:=BS' aF B7 (by omega);have cC:=(aQ).at_ (Eu (l:=(Kc (Dt i) 64 k)) (i:=qq*32+rr) (by have hh:(Kc (Dt i) 64 k).length=64:=(Ji (Dt i) 64 k);omega));have cD:=(aQ).frozen (qq*32+rr);refine Ci 17 fun Q' hQ'=>?_;dsimp only[C7];go_wp2_with fail;rw[←aF];refine hQ' _ _ trivial ?_;clear hQ' cC cD;have eE:w.heap.size+1≤dI.heap.size:=by have hz:=z7;rw[aF];simp[World.setCell];omega
     clear aF B7 z7 bX bY aQ;refine It ?_;go_wp2_with fail;go_roundw;case rel=>exact ⟨k+1,by omega,by omega,by go_num,cA,cB,(by have h4:=bZ;rw[eB.out,A8v hltk HA.out.symm]at h4;exact h4),eD,eE⟩
     case measure=>simp[intOf];omega
    ·
     obtain rfl:k=64:=by omega
     have dJ:((64:Nat):Int)=64:=rfl;rw[dJ];clear dJ;go_wp2_with fail;have dK:=Kg wr;refine Jh (fun W=>Bk W (p5) 226 (c8 (Kc (Dt i) 64 64))) ?_;refine Fs (A:=?eF) [0,1,2,4,5] (aD.drew) (fun W hW=>?cS) ?eG;case cS=>have f2:=Bk.xyAt (hW) (Ji (Dt i) 64 64) 0 (by decide);have f5:=Bk.xyAt (hW) (Ji (Dt i) 64 64) 32 (by decide);exact Gq
     refine N8 [zv 3 40 (H8 (Z2 (C6 (Kc (Dt i) 64 64) 0))),zv 6 43 (H8 (Z2 (C6 (Kc (Dt i) 64 64) 32))),zv 7 44 (H8 (Cx (Z2 (C6 (Kc (Dt i) 64 64) 0)) (Z2 (C6 (Kc (Dt i) 64 64) 32))).row),zv 8 45 (.pointer (some ⟨w.heap.size+1,i*20,none⟩))] (by kernel_rfl) (fun W hW=>(aD.drew.bl hW)) ?bA ?bB ?bC;case bA=>exact MO'
     case bB=>
      refine (Z3 ⟨?cE,(Z3 ⟨?cF,(Z3 ⟨?cG,(Z3 ⟨?cH,Zh⟩)⟩)⟩)⟩);case cE=>
       exact KC' fun W=>Hi (C6 (Kc (Dt i) 64 64) 0) (Jz (Ji (Dt i) 64 64) 0 (by decide)) W
      case cF=>exact D4r fun W=>Hi (C6 (Kc (Dt i) 64 64) 32) (Jz (Ji (Dt i) 64 64) 32 (by decide)) W
      case cG=>exact F3e fun W=>B8b (Z2 (C6 (Kc (Dt i) 64 64) 0)) (Z2 (C6 (Kc (Dt i) 64 64) 32)) (M7 (C6 (Kc (Dt i) 64 64) 0)) (M7 (C6 (Kc (Dt i) 64 64) 32)) W
      case cH=>intro o ho us W hW hp Q' hQ';obtain rfl:=Option.some.inj ho;have cI:us 3=(H8 (Z2 (C6 (Kc (Dt i) 64 64) 0))):=hp 0 _ rfl (by kernel_rfl);have cJ:us 6=(H8 (Z2 (C6 (Kc (Dt i) 64 64) 32))):=hp 1 _ rfl (by kernel_rfl);have aI:us 7=(H8 (Cx (Z2 (C6 (Kc (Dt i) 64 64) 0)) (Z2 (C6 (Kc (Dt i) 64 64) 32))).row):=hp 2 _ rfl (by kernel_rfl);clear hp ho;rw[C1]at hQ' ⊢;dsimp only[C7,E5,List.foldl,zv,za]at hQ' ⊢;simp only[Cy];rw[cI,cJ,aI]at hQ' ⊢;clear cI cJ aI;go_wp2_with fail;exact Ea (hQ' _ _ (Below.refl _ _) rfl nofun)
     case bC=>
     intro us dL dM hg aZ cR;have cI:us 3=(H8 (Z2 (C6 (Kc (Dt i) 64 64) 0))):=hg _ (Ca 0 rfl);have cJ:us 6=(H8 (Z2 (C6 (Kc (Dt i) 64 64) 32))):=hg _ (Ca 1 rfl);have aI:us 7=(H8 (Cx (Z2 (C6 (Kc (Dt i) 64 64) 0)) (Z2 (C6 (Kc (Dt i) 64 64) 32))).row):=hg _ (Ca 2 rfl);have aM:us 8=(.pointer (some ⟨w.heap.size+1,i*20,none⟩)):=hg _ (Ca 3 rfl);have bI:=Q5 dK dM;refine RP' ?_;rw[cI,cJ,aI,aM];clear hg aZ cR cI cJ aI aM dM dK;have dN:=Q5 aX bI;have dO:=Nat.le_trans aP bI.size;have aV:=aB.bl bI;have aO:=aC.bl bI;have aW:=aD.bl bI;clear bI aX aP aB aC aD;obtain⟨eH,aG⟩:=E9 (C4 dL ⟨w.heap.size+1,i*20,none⟩ (C9 (Cx (Z2 (C6 (Kc (Dt i) 64 64) 0)) (Z2 (C6 (Kc (Dt i) 64 64) 32))).row));have cK:Bk eH (w.heap.size+1) 205 (C9 (Pl ((Lw Ni 32 i).set i (Cx (Z2 (C6 (Kc (Dt i) 64 64) 0)) (Z2 (C6 (Kc (Dt i) 64 64) 32)))))):=by rw[aG];exact Bk.plPut (i:=i) (aO) (Mt Oi 32 i) (by simp;try omega) (Ex (M7 (C6 (Kc (Dt i) 64 64) 0)) (M7 (C6 (Kc (Dt i) 64 64) 32)))
     have cL:=U1 aG aV (by omega);have cM:=U1 aG aW (by omega);have eI:=Iu aG dN (by omega);have bD:P7 dL ⟨w.heap.size+1,i*20,none⟩ 20=true:=Bk.plCan (i:=i) (aO) (Mt Oi 32 i) (by simp;try omega);have bE:(Cx (Z2 (C6 (Kc (Dt i) 64 64) 0)) (Z2 (C6 (Kc (Dt i) 64 64) 32))).row.length=20:=(Ex (M7 (C6 (Kc (Dt i) 64 64) 0)) (M7 (C6 (Kc (Dt i) 64 64) 32))).row;refine Ci 9 fun Q' hQ'=>?_;dsimp only[C7];go_wp2_with fail;rw[←aG];refine hQ' _ _ cM ?_;clear hQ' bD bE;have eJ:=ZP' aG dO;clear aG dN dO aV aO aW;refine It ?_;go_wp2_with fail;go_roundw;case rel=>exact ⟨i+1,by omega,by omega,by go_num,cL,(by have h1:=cK;rw[D2x hlti]at h1;exact h1),eI,eJ⟩
     case measure=>simp[intOf];omega
  ·
   obtain rfl:i=32:=by omega
   have dQ:((32:Nat):Int)=32:=rfl;rw[dQ];clear dQ;obtain⟨eX,aR⟩:=E9 (C4 wr ⟨w.heap.size,0,none⟩ (C9 (Pl (Lw Ni 32 32))));have bF:=Zx 640 aR aB (by simp) (by rw[Z7 (Mt Oi 32 32)];simp);have cT:=Iu aR aX (by omega);have eK:=Bk.row64 (n:=640) (aC) ((show (Pl (Lw Ni 32 32)).length=640 from by rw[Z7 (Mt Oi 32 32)];simp));have bG:=Uh 640 aB (by simp);have cU:(Pl (Lw Ni 32 32)).length=640:=(show (Pl (Lw Ni 32 32)).length=640 from by rw[Z7 (Mt Oi 32 32)];simp);go_wp2_with fail;rw[←aR];clear eK bG cU;clear aR aP;have cV:(Pl (Lw Ni 32 32)).length=640:=(show (Pl (Lw Ni 32 32)).length=640 from by rw[Z7 (Mt Oi 32 32)];simp);refine bodyPost_ret (C5 rfl _ _ _ _ _ _ rfl bF Tryz.underlying205 rfl (by simp[A3k,cV])) rfl ⟨rfl,cT⟩
noncomputable def D7x (n:Nat) (w:World) (raw:Result Next) (v z:Value):Result Next:=match A1j v,z with
 | some l,.int _ i=>if l.length=n*20∧0≤i∧i<n then .ok (.value (H8 ((l.drop (i.toNat*20)).take 20))) w else raw
 | _,_=>raw
@[go_sem] theorem F4j (n : Nat) (w : World) (raw : Result Next) (ps : List Pn) (h : Mo ps) (hl : ps.length = n) (k : IntKind) (i : Nat) (hi : i < n) : D7x n w raw (H8 (Pl ps)) (.int k (i : Int)) = .ok (.value (H8 (U6 ps i).row)) w := by
 have h1:=Z7 h;have h2:=C7v i h (by omega);unfold D7x;rw[Ya];show (if (Pl ps).length=n*20∧0≤(i:Int)∧(i:Int)<n then Result.ok (.value (H8 (((Pl ps).drop ((i:Int).toNat*20)).take 20))) w else raw)=_;rw[if_pos ⟨by omega,by omega,by omega⟩,Int.toNat_natCast,h2];rfl
theorem C1n (w:World):(sizeOf 140).run Tryz.prog w=.ok 20 w:=by kernel_rfl
theorem D6j (xs:List UInt64) (o:Nat) (w:World):(part 140 (C9 xs).toArray o).run Tryz.prog w=.ok (H8 ((xs.drop o).take 20)) w:=by
 simp[part,isAgg,run_underlying Jd,C1n,H8,C9,List.extract_eq_take_drop]
@[go_sem ↓ high] theorem E5x (w : World) (ρ : Operand → Value) (dst : Option Tmp) (ty : TypeId) (pos : String) (after : Array Edge) (guard : Option (Nat × Bool)) (x ix : Operand) :
 (execOp ρ { dst,op:=.index 205 x ix,type:=ty,pos,after,guard }).run Tryz.prog w=D7x 32 w (L3 Tryz.prog ρ { dst,op:=.index 205 x ix,type:=ty,pos,after,guard } w) (ρ x) (ρ ix):=by
 generalize hv:ρ x=v;generalize hz:ρ ix=z;unfold D7x;split
 ·rename_i l k i h1
  replace h1:=Il h1;split
  ·rename_i hc
   obtain⟨h2,h3,h4⟩:=hc;subst h1;have h5:i<32:=by omega
   have h6:¬ 32≤i:=by omega
   have e1:(part 140 (C9 l).toArray (i.toNat*20)).run Tryz.prog w=.ok (H8 ((l.drop (i.toNat*20)).take 20)) w:=D6j l _ w;simp[execOp,hv,hz,H8,Instr.index,run_underlying Tryz.underlying205,asIntOf,h3,h4,h5,h6,C1n,e1]
  ·rfl
 ·rfl
def C5d (n:List UInt8) (i s:Nat):Bool:=g8 n i >>> UInt8.ofNat s &&& 1==1
noncomputable def Cm (n:List UInt8) (s:Nat) (r:Pn):Nat→Pn
 | 0=>r
 | i+1=>if C5d n i s then Ac (Cm n s r i) (Ni i) F2 else Cm n s r i
theorem Jb (n:List UInt8) (s:Nat) {r:Pn} (hr:r.Ok):∀i,(Cm n s r i).Ok
 | 0=>hr
 | i+1=>by
  unfold Cm;split
  ·exact Ej _ _ _
  ·exact Jb n s hr i
theorem B4y {n:List UInt8} {s:Nat} {r:Pn} {i:Nat} (hb:C5d n i s=true) (hi:i<32):Cm n s r (i+1)=Ac (Cm n s r i) (U6 Nf i) F2:=by
 rw[D7c hi];exact if_pos hb
theorem C0e {n:List UInt8} {s:Nat} {r:Pn} {i:Nat} (hb:C5d n i s=false):Cm n s r (i+1)=Cm n s r i:=if_neg (by rw[hb];decide)
noncomputable def Ay (n:List UInt8):Nat→Pn
 | 0=>U2 Eg
 | m+1=>Cm n (7-m) (Js (Ay n m)) 32
theorem Gf (n:List UInt8):∀m,(Ay n m).Ok
 | 0=>Z8 Fe
 | m+1=>Jb n _ (Gv _) 32
noncomputable def Rt (n:List UInt8):Pn:=Ay n 8
theorem Ug (n:List UInt8):(Rt n).Ok:=Gf n 8
theorem C3f (n:List UInt8) (hn:n.length=32) (w:World):Calls Tryz.prog 94 #[A8 n] w fun e w'=>e=.returned (H8 (Rt n).row)∧Below w.heap.size w w':=by
 have iB:=Ko;have iC:=B5q;obtain⟨W0,fO⟩:=E9 (((w.alloc (Obj.cells (c8 n).toArray 23)).alloc (Obj.cells (C9 (M1 20)).toArray 140)));have hL:W0=O8 w [(23,(c8 n)),(140,(C9 (M1 20)))]:=fO;have B0:=Rf hL;have fC:=Um hL rfl;have fD:=Nm 1 hL rfl;have z0:=ZL' 2 hL rfl;clear hL;go_enter Tryz.func94,Tryz.ntmps94;go_wp2_with fail;rw[←fO];clear fO;refine (Yh W0).mono ?_;rintro e W1 ⟨rfl,b2⟩;have B1:=Q5 B0 b2;have z1:=Nat.le_trans z0 b2.size;have dW:=fC.bl b2;have dX:=fD.bl b2;clear b2 B0 z0 fC fD;obtain⟨V3,cP⟩:=E9 (W1.alloc (Obj.cells (C9 (M1 5)).toArray 138));have fE:W1.heap.size=W1.heap.size:=rfl;have bE:Bk V3 (W1.heap.size) 138 (C9 (M1 5)):=by rw[cP,←fE];exact Bk.new W1 _ _
 have cQ:=Ed cP dW;have cR:=Ed cP dX;have fX:=Uo cP B1;have bF:=Et fE dW;have bG:=Et fE dX;have fF:w.heap.size+2≤W1.heap.size:=by rw[←fE];exact Nat.le_trans z1 (Nat.le_refl _)
 clear fE;obtain⟨V4,dY⟩:=E9 (C4 V3 ⟨W1.heap.size,0,none⟩ (C9 F2));have bH:=Zx 5 dY bE (by simp) O7;have cS:=U1 dY cQ (by omega);have cT:=U1 dY cR (by omega);have fY:=Iu dY fX (by omega);have cU:=Uh 5 bE (by simp);rw[cP]at cU;have aC:F2.length=5:=O7;go_wp2_with fail;rw[←cP,←dY];clear cU aC;obtain⟨p5,fP⟩:=E9 (W1.heap.size);rw[←fP]at bH bF bG fF;try rw[←fP]
 have fZ:w.heap.size+2≤V4.heap.size:=by have hz:=z1;rw[dY,cP];first | (simp;omega) | (simp[World.setCell];omega)
 clear cP dY fP dW dX B1 z1 cQ cR bE fX;refine (B6s V4).mono ?_;rintro e W6 ⟨rfl,b7⟩;have B6:=Q5 fY b7;have z6:=Nat.le_trans fZ b7.size;have dZ:=cS.bl b7;have eA:=cT.bl b7;have eB:=bH.bl b7;clear b7 fY fZ cS cT bH;obtain⟨V8,cM⟩:=E9 (W6.alloc (Obj.cells (C9 (M1 640)).toArray 205));have eY:W6.heap.size=W6.heap.size:=rfl;have bI:Bk V8 (W6.heap.size) 205 (C9 (M1 640)):=by rw[cM,←eY];exact Bk.new W6 _ _
 have cV:=Ed cM dZ;have cW:=Ed cM eA;have cX:=Ed cM eB;have gA:=Uo cM B6;have bJ:=Et eY dZ;have bK:=Et eY eA;have bL:=Et eY eB;have fG:w.heap.size+2≤W6.heap.size:=by rw[←eY];exact Nat.le_trans z6 (Nat.le_refl _)
 clear eY;obtain⟨V9,cY⟩:=E9 (C4 V8 ⟨W6.heap.size,0,none⟩ (C9 (Pl Nf)));have bM:=Zx 640 cY bI (by simp) (by rw[Z7 Ko];simp);have cZ:=U1 cY cV (by omega);have dC:=U1 cY cW (by omega);have dD:=U1 cY cX (by omega);have gC:=Iu cY gA (by omega);have dF:=Uh 640 bI (by simp);rw[cM]at dF;have aC:(Pl Nf).length=640:=(show (Pl Nf).length=640 from by rw[Z7 Ko];simp);go_wp2_with fail;rw[←cM,←cY];clear dF aC;obtain⟨gF,eC⟩:=E9 (W6.heap.size);rw[←eC]at bM bJ bK bL fG;try rw[←eC]
 have gG:w.heap.size+2≤V9.heap.size:=by have hz:=z6;rw[cY,cM];first | (simp;omega) | (simp[World.setCell];omega)
 clear cM cY eC dZ eA eB B6 z6 cV cW cX bI gA;refine (C3j Eg Fe V9).mono ?_;rintro e dG ⟨rfl,eD⟩;have gH:=Q5 gC eD;have fQ:=Nat.le_trans gG eD.size;have bN:=cZ.bl eD;have bO:=dC.bl eD;have bP:=dD.bl eD;have bQ:=bM.bl eD;clear eD gC gG cZ dC dD bM;obtain⟨gI,aH⟩:=E9 (dG.alloc (Obj.cells (C9 (M1 20)).toArray 140));have aX:dG.heap.size=dG.heap.size:=rfl;have aY:Bk gI (dG.heap.size) 140 (C9 (M1 20)):=by rw[aH,←aX];exact Bk.new dG _ _
 have bR:=Ed aH bN;have bS:=Ed aH bO;have bT:=Ed aH bP;have bU:=Ed aH bQ;have fH:=Uo aH gH;have bV:=Et aX bN;have bX:=Et aX bO;have bY:=Et aX bP;have bZ:=Et aX bQ;have fI:w.heap.size+2≤dG.heap.size:=by rw[←aX];exact Nat.le_trans fQ (Nat.le_refl _)
 clear aX;obtain⟨gS,aM⟩:=E9 (C4 gI ⟨dG.heap.size,0,none⟩ (C9 (U2 Eg).row));have aZ:=Zx 20 aM aY (by simp) ((Z8 Fe).row);have cA:=U1 aM bR (by omega);have cB:=U1 aM bS (by omega);have cC:=U1 aM bT (by omega);have cD:=U1 aM bU (by omega);have fJ:=Iu aM fH (by omega);have cE:=Uh 20 aY (by simp);rw[aH]at cE;have aC:(U2 Eg).row.length=20:=(Z8 Fe).row;go_wp2_with fail;rw[←aH,←aM];clear cE aC;obtain⟨eZ,eE⟩:=E9 (dG.heap.size);rw[←eE]at aZ bV bX bY bZ fI;try rw[←eE]
 have fK:w.heap.size+2≤gS.heap.size:=by have hz:=fQ;rw[aM,aH];first | (simp;omega) | (simp[World.setCell];omega)
 clear aH aM eE bN bO bP bQ gH fQ bR bS bT bU aY fH;go_loopw [6] (fun x6 wr=>∃m:Nat,0≤m∧m≤8∧x6=.int .i64 (7-(m:Int))∧Bk wr (w.heap.size) 23 (c8 n)∧Bk wr (w.heap.size+1) 140 (C9 (M1 20))∧Bk wr (p5) 138 (C9 F2)∧Bk wr (gF) 205 (C9 (Pl Nf))∧Bk wr (eZ) 140 (C9 (Ay n m).row)∧Below w.heap.size w wr∧w.heap.size+2≤wr.heap.size) (fun x6 _=>(intOf x6+1).toNat)
 case atStart=>exact ⟨0,by omega,by omega,rfl,cA,cB,cC,cD,aZ,fJ,fK⟩
 case round=>
  clear fJ fK cA cB cC cD aZ;obtain⟨m,iD,hm,rfl,aJ,aD,aK,aL,aE,fB,cL⟩:=hrel;by_cases hltm:m<8
  ·
   obtain⟨s,hs⟩:=E9 (7-m);have es:7-(m:Int)=(s:Int):=by omega
   have gT:s<8:=by omega
   have hd:decide (0≤(s:Int))=true:=decide_eq_true (by omega);rw[es];have HM:Hid (Ay n (m+1)=Cm n s (Js (Ay n m)) 32):=Lib.hid (by rw[hs];rfl);have ES:=Lib.hid es;clear hs es;have gU:=Bk.row64 (n:=20) (aE) ((Gf n m).row);go_wp2_with fail;clear gU;refine (Qm (Ay n m) (Gf n m) wr).mono ?_;rintro e gV ⟨rfl,dI⟩;have gJ:=Q5 fB dI;have gK:=Nat.le_trans cL dI.size;have dJ:=aJ.bl dI;have dK:=aD.bl dI;have dL:=aK.bl dI;have dM:=aL.bl dI;have cF:=aE.bl dI;clear dI fB cL aJ aD aK aL aE;obtain⟨gW,aI⟩:=E9 (C4 gV ⟨eZ,0,none⟩ (C9 (Js (Ay n m)).row));have cG:Bk gW (eZ) 140 (C9 (Js (Ay n m)).row):=by rw[aI];exact Bk.put64 (cF) ((Gf n m).row) ((Gv (Ay n m)).row)
   have cH:=U1 aI dJ (by omega);have cI:=U1 aI dK (by omega);have cJ:=U1 aI dL (by omega);have bA:=U1 aI dM (by omega);have fL:=Iu aI gJ (by omega);have eF:=Uh 20 cF ((Gf n m).row);have f20:=Bk.row64 (n:=640) (bA) ((show (Pl Nf).length=640 from by rw[Z7 Ko];simp));rw[aI]at f20;have aC:(Js (Ay n m)).row.length=20:=(Gv (Ay n m)).row;go_wp2_with fail;rw[←aI];clear eF f20 aC;have fM:=ZP' aI gK;clear aI dJ dK dL dM cF gJ gK;go_loopw [20] (fun x20 wr=>∃i:Nat,0≤i∧i≤32∧x20=.int .i64 (i:Int)∧Bk wr (w.heap.size) 23 (c8 n)∧Bk wr (w.heap.size+1) 140 (C9 (M1 20))∧Bk wr (p5) 138 (C9 F2)∧Bk wr (gF) 205 (C9 (Pl Nf))∧Bk wr (eZ) 140 (C9 (Cm n s (Js (Ay n m)) i).row)∧Below w.heap.size w wr∧w.heap.size+2≤wr.heap.size) (fun x20 _=>32-(intOf x20).toNat)
   case atStart=>exact ⟨0,by omega,by omega,rfl,cH,cI,cJ,bA,cG,fL,fM⟩
   case round=>
    clear fL fM cH cI cJ bA cG;obtain⟨i,iE,hi,rfl,aJ,aD,aK,aL,aE,fB,cL⟩:=hrel;by_cases hlti:i<32
    ·
     have iF:decide ((i:Int)<32)=true:=decide_eq_true (by omega);have iG:(n8 (g8 n i >>> UInt8.ofNat s &&& 1)==1)=C5d n i s:=Ov (x:=g8 n i >>> UInt8.ofNat s &&& 1) (y:=1);obtain⟨gL,aA⟩:=E9 (wr.alloc (Obj.cells (C9 (M1 20)).toArray 140));have aR:wr.heap.size=wr.heap.size:=rfl;have bB:Bk gL (wr.heap.size) 140 (C9 (M1 20)):=by rw[aA,←aR];exact Bk.new wr _ _
     have eG:=Ed aA aJ;have eH:=Ed aA aD;have eI:=Ed aA aK;have eJ:=Ed aA aL;have eK:=Ed aA aE;have fR:=Uo aA fB;have aS:=Et aR aJ;have aT:=Et aR aD;have aU:=Et aR aK;have aV:=Et aR aL;have aW:=Et aR aE;have dN:w.heap.size+2≤wr.heap.size:=by rw[←aR];exact Nat.le_trans cL (Nat.le_refl _)
     clear aR;obtain⟨fS,aB⟩:=E9 (C4 gL ⟨wr.heap.size,0,none⟩ (C9 (U6 Nf i).row));have aN:=Zx 20 aB bB (by simp) ((Ko.at i).row);have aF:=U1 aB eG (by omega);have bC:=U1 aB eH (by omega);have aO:=U1 aB eI (by omega);have bD:=U1 aB eJ (by omega);have aP:=U1 aB eK (by omega);have eL:=Iu aB fR (by omega);cases hb2:C5d n i s;case false=>
      have aG:=Uh 20 bB (by simp);rw[aA]at aG;have fN:=(aF).at_ (Eu (l:=n) (i:=i) (by have hh:n.length=32:=hn;omega));rw[aB,aA]at fN;have aC:(U6 Nf i).row.length=20:=(Ko.at i).row;go_wp2_with fail;rw[←aA,←aB];clear aG fN aC;obtain⟨iH,eM⟩:=E9 (wr.heap.size);rw[←eM]at aN aS aT aU aV aW dN;try rw[←eM]
      have cN:w.heap.size+2≤fS.heap.size:=by have hz:=cL;rw[aB,aA];first | (simp;omega) | (simp[World.setCell];omega)
      clear aA aB eM cL;go_roundw;case rel=>exact ⟨i+1,by omega,by omega,by go_num,aF,bC,aO,bD,(by rw[C0e hb2];exact aP),eL,cN⟩
      case measure=>simp[intOf];omega
     case true=>
      have aG:=Uh 20 bB (by simp);rw[aA]at aG;have fN:=(aF).at_ (Eu (l:=n) (i:=i) (by have hh:n.length=32:=hn;omega));rw[aB,aA]at fN;have gM:=Bk.row64 (n:=20) (aP) ((Jb n s (Gv (Ay n m)) i).row);rw[aB,aA]at gM;have gN:=Bk.row64 (n:=20) (aN) ((Ko.at i).row);rw[aB,aA]at gN;have gO:=Bk.row64 (n:=5) (aO) (O7);rw[aB,aA]at gO;have aC:(U6 Nf i).row.length=20:=(Ko.at i).row;go_wp2_with fail;rw[←aA,←aB];clear aG fN gM gN gO aC;obtain⟨iI,eN⟩:=E9 (wr.heap.size);rw[←eN]at aN aS aT aU aV aW dN;try rw[←eN]
      have cN:w.heap.size+2≤fS.heap.size:=by have hz:=cL;rw[aB,aA];first | (simp;omega) | (simp[World.setCell];omega)
      clear aA aB eN cL;refine (Uc (Cm n s (Js (Ay n m)) i) (U6 Nf i) F2 (Jb n s (Gv (Ay n m)) i) (Ko.at i) O7 fS).mono ?_;rintro e gY ⟨rfl,dO⟩;have gP:=Q5 eL dO;have gQ:=Nat.le_trans cN dO.size;have dQ:=aF.bl dO;have dS:=bC.bl dO;have dT:=aO.bl dO;have dU:=bD.bl dO;have cK:=aP.bl dO;clear dO eL cN aF bC aO bD aP aN;obtain⟨gZ,aQ⟩:=E9 (C4 gY ⟨eZ,0,none⟩ (C9 (Ac (Cm n s (Js (Ay n m)) i) (U6 Nf i) F2).row));have eO:Bk gZ (eZ) 140 (C9 (Ac (Cm n s (Js (Ay n m)) i) (U6 Nf i) F2).row):=by rw[aQ];exact Bk.put64 (cK) ((Jb n s (Gv (Ay n m)) i).row) ((Ej (Cm n s (Js (Ay n m)) i) (U6 Nf i) F2).row)
      have eP:=U1 aQ dQ (by omega);have eQ:=U1 aQ dS (by omega);have eS:=U1 aQ dT (by omega);have eT:=U1 aQ dU (by omega);have fT:=Iu aQ gP (by omega);have eU:=Uh 20 cK ((Jb n s (Gv (Ay n m)) i).row);have aC:(Ac (Cm n s (Js (Ay n m)) i) (U6 Nf i) F2).row.length=20:=(Ej (Cm n s (Js (Ay n m)) i) (U6 Nf i) F2).row;go_wp2_with fail;rw[←aQ];clear eU aC;have fU:=ZP' aQ gQ;clear aQ dQ dS dT dU cK gP gQ;go_roundw;case rel=>exact ⟨i+1,by omega,by omega,by go_num,eP,eQ,eS,eT,(by rw[B4y hb2 hlti];exact eO),fT,fU⟩
      case measure=>simp[intOf];omega
    ·
     obtain rfl:i=32:=by omega
     have gR:((32:Nat):Int)=32:=rfl;rw[gR];clear gR;go_wp2_with fail;go_roundw;case rel=>exact ⟨m+1,by omega,by omega,by rw[←ES.out];all_goals (simp<;>omega),aJ,aD,aK,aL,(by rw[HM.out];exact aE),fB,cL⟩
     case measure=>have:=ES.out;simp[intOf]<;>omega
  ·
   obtain rfl:m=8:=by omega
   obtain⟨iJ,cO⟩:=E9 (C4 wr ⟨w.heap.size+1,0,none⟩ (C9 (Ay n 8).row));have eV:=Zx 20 cO aD (by simp) ((Gf n 8).row);have fV:=Iu cO fB (by omega);have iA:=Bk.row64 (n:=20) (aE) ((Gf n 8).row);have eX:=Uh 20 aD (by simp);have aC:(Ay n 8).row.length=20:=(Gf n 8).row;go_wp2_with fail;rw[←cO];clear iA eX aC;clear cO cL;have fW:(Ay n 8).row.length=20:=(Gf n 8).row;refine bodyPost_ret (C5 rfl _ _ _ _ _ _ rfl eV Jd rfl (by simp[Tm,fW])) rfl ⟨rfl,fV⟩
noncomputable def Iv (p:Pn) (n:List UInt8):Nat→Pn
 | 0=>U6 (J8 p F2) 0
 | m+1=>Ac (Cq 4 (Iv p n m)) (U6 (J8 p F2) (dg n (63-m))) F2
theorem Gc {p:Pn} (hp:p.Ok) (n:List UInt8):∀m,(Iv p n m).Ok
 | 0=>(Am hp F2).at 0
 | m+1=>Ej _ _ _
noncomputable def F9 (p:Pn) (n:List UInt8):Pn:=if p.row==C3.row then Rt n else Iv p n 64
theorem B1l {p:Pn} (hp:p.Ok) (n:List UInt8):(F9 p n).Ok:=by
 unfold F9;split
 ·exact Ug n
 ·exact Gc hp n 64
theorem B6n {p:Pn} (n:List UInt8) (h:(p.row==C3.row)=true):F9 p n=Rt n:=if_pos h
theorem D7t {p:Pn} (n:List UInt8) (h:(p.row==C3.row)=false):F9 p n=Iv p n 64:=if_neg (by rw[h];decide)
theorem A6a (p:Pn) (n:List UInt8) (hp:p.Ok) (hn:n.length=32) (w:World):Calls Tryz.prog 66 #[H8 p.row,A8 n] w fun e w'=>e=.returned (H8 (F9 p n).row)∧Below w.heap.size w w':=by
 have jI:=hp.row;have jJ:=Bx.row;obtain⟨W0,gH⟩:=E9 ((((w.alloc (Obj.cells (C9 p.row).toArray 140)).alloc (Obj.cells (c8 n).toArray 23)).alloc (Obj.cells (C9 (M1 20)).toArray 140)));have hL:W0=O8 w [(140,(C9 p.row)),(23,(c8 n)),(140,(C9 (M1 20)))]:=gH;have B0:=Rf hL;have cR:=Um hL rfl;have fD:=Nm 1 hL rfl;have fE:=Nm 2 hL rfl;have z0:=ZL' 3 hL rfl;have iR:=SL' 3 hL rfl;clear hL;go_enter Tryz.func66,Tryz.ntmps66;go_wp2_with fail;rw[←gH];clear gH iR;have S1:=Kg W0;refine Jh (fun W=>Bk W (w.heap.size) 140 (C9 p.row)) ?_;refine Fs (A:=?jK) [0] (cR.drew) (fun W hW=>?iS) ?jL;case iS=>have f0:=Bk.row64 (n:=20) (hW) (hp.row);exact Gq
 refine N8 [zv 1 10 (H8 C3.row),zv 2 11 (.bool (p.row==C3.row))] (by kernel_rfl) (fun W hW=>(cR.drew.bl hW)) ?fF ?fG ?fH;case fF=>exact MO'
 case fG=>
  refine (Z3 ⟨?gI,(Z3 ⟨?gJ,Zh⟩)⟩);case gI=>
   exact KC' fun W=>Se W
  case gJ=>intro o ho us W hW hp Q' hQ';obtain rfl:=Option.some.inj ho;have fI:us 1=(H8 C3.row):=hp 0 _ rfl (by kernel_rfl);clear hp ho;rw[C1]at hQ' ⊢;dsimp only[C7,E5,List.foldl,zv,za]at hQ' ⊢;simp only[Cy];rw[fI]at hQ' ⊢;clear fI;go_wp2_with fail;exact Fw (hQ' _ _ (Below.refl _ _) rfl (fun h=>by cases h)) (by kernel_rfl)
 case fH=>
 intro us W2 b3 hg eA gK;have fI:us 1=(H8 C3.row):=hg _ (Ca 0 rfl);have iB:us 2=(.bool (p.row==C3.row)):=hg _ (Ca 1 rfl);have b4:=Q5 S1 b3;refine RP' ?_;rw[fI,iB];clear hg eA gK fI iB b3 S1;have B2:=Q5 B0 b4;have z2:=Nat.le_trans z0 b4.size;have cS:=cR.bl b4;have bC:=fD.bl b4;have cT:=fE.bl b4;clear b4 B0 z0 cR fD fE;refine It ?_;cases hz:(p.row==C3.row);case false=>
  have HZ:=Lib.hid (D7t n hz);clear hz;go_wp2_with fail;refine (Yh W2).mono ?_;rintro e W5 ⟨rfl,b6⟩;have B5:=Q5 B2 b6;have z5:=Nat.le_trans z2 b6.size;have eB:=cS.bl b6;have eC:=bC.bl b6;have eD:=cT.bl b6;clear b6 B2 z2 cS bC cT;obtain⟨V7,bD⟩:=E9 (W5.alloc (Obj.cells (C9 (M1 5)).toArray 138));have fB:W5.heap.size=W5.heap.size:=rfl;have bE:Bk V7 (W5.heap.size) 138 (C9 (M1 5)):=by rw[bD,←fB];exact Bk.new W5 _ _
  have cX:=Ed bD eB;have cY:=Ed bD eC;have cZ:=Ed bD eD;have iC:=Uo bD B5;have bF:=Et fB eB;have bG:=Et fB eC;have bH:=Et fB eD;have fJ:w.heap.size+3≤W5.heap.size:=by rw[←fB];exact Nat.le_trans z5 (Nat.le_refl _)
  clear fB;obtain⟨V8,cQ⟩:=E9 (C4 V7 ⟨W5.heap.size,0,none⟩ (C9 F2));have bA:=Zx 5 cQ bE (by simp) O7;have bI:=U1 cQ cX (by omega);have dC:=U1 cQ cY (by omega);have dD:=U1 cQ cZ (by omega);have iD:=Iu cQ iC (by omega);have dF:=Uh 5 bE (by simp);rw[bD]at dF;have f9:=Bk.row64 (n:=20) (bI) (hp.row);rw[cQ,bD]at f9;have f10:=Bk.row64 (n:=5) (bA) (O7);rw[cQ,bD]at f10;have aN:F2.length=5:=O7;go_wp2_with fail;rw[←bD,←cQ];clear dF f9 f10 aN;obtain⟨gL,eE⟩:=E9 (W5.heap.size);rw[←eE]at bA bF bG bH fJ;try rw[←eE]
  have iE:w.heap.size+3≤V8.heap.size:=by have hz:=z5;rw[cQ,bD];first | (simp;omega) | (simp[World.setCell];omega)
  clear bD cQ eE eB eC eD B5 z5 cX cY cZ bE iC;refine (A3x p F2 hp O7 V8).mono ?_;rintro e bB ⟨rfl,eF⟩;have iF:=Q5 iD eF;have gG:=Nat.le_trans iE eF.size;have bJ:=bI.bl eF;have bK:=dC.bl eF;have bL:=dD.bl eF;have bM:=bA.bl eF;clear eF iD iE bI dC dD bA;obtain⟨iG,aF⟩:=E9 (bB.alloc (Obj.cells (C9 (M1 320)).toArray 177));have aQ:bB.heap.size=bB.heap.size:=rfl;have aR:Bk iG (bB.heap.size) 177 (C9 (M1 320)):=by rw[aF,←aQ];exact Bk.new bB _ _
  have bN:=Ed aF bJ;have bO:=Ed aF bK;have bP:=Ed aF bL;have bQ:=Ed aF bM;have fK:=Uo aF iF;have bR:=Et aQ bJ;have bS:=Et aQ bK;have bT:=Et aQ bL;have bU:=Et aQ bM;have fL:w.heap.size+3≤bB.heap.size:=by rw[←aQ];exact Nat.le_trans gG (Nat.le_refl _)
  clear aQ;obtain⟨gM,aH⟩:=E9 (C4 iG ⟨bB.heap.size,0,none⟩ (C9 (Pl (J8 p F2))));have aO:=Zx 320 aH aR (by simp) (by rw[Z7 (Am hp F2)];simp);have aS:=U1 aH bN (by omega);have aT:=U1 aH bO (by omega);have aU:=U1 aH bP (by omega);have aV:=U1 aH bQ (by omega);have fM:=Iu aH fK (by omega);obtain⟨iH,aI⟩:=E9 (gM.alloc (Obj.cells (C9 (M1 20)).toArray 140));have aP:gM.heap.size=bB.heap.size+1:=by rw[aH,aF];simp
  have aW:Bk iH (bB.heap.size+1) 140 (C9 (M1 20)):=by rw[aI,←aP];exact Bk.new gM _ _
  have bV:=Ed aI aS;have bX:=Ed aI aT;have bY:=Ed aI aU;have bZ:=Ed aI aV;have cA:=Ed aI aO;have fN:=Uo aI fM;have cB:=Et aP aS;have cC:=Et aP aT;have cD:=Et aP aU;have cE:=Et aP aV;have cF:=Et aP aO;have fO:w.heap.size+3≤bB.heap.size+1:=by rw[←aP];exact Nat.le_trans gG (by rw[aP];omega)
  clear aP;obtain⟨iT,aJ⟩:=E9 (C4 iH ⟨bB.heap.size+1,0,none⟩ (C9 (U6 (J8 p F2) 0).row));have aX:=Zx 20 aJ aW (by simp) (((Am hp F2).at 0).row);have cG:=U1 aJ bV (by omega);have cH:=U1 aJ bX (by omega);have cI:=U1 aJ bY (by omega);have cJ:=U1 aJ bZ (by omega);have aY:=U1 aJ cA (by omega);have fP:=Iu aJ fN (by omega);have cK:=Uh 320 aR (by simp);rw[aF]at cK;have iI:=show C8 _ ⟨_,0,none⟩ 20=some (C9 (U6 (J8 p F2) 0).row) from Bk.plAt (i:=0) (aO) (Am hp F2) (by simp;try omega);rw[aH,aF]at iI;have cL:=Uh 20 aW (by simp);rw[aI,aH,aF]at cL;have aN:(Pl (J8 p F2)).length=320:=(show (Pl (J8 p F2)).length=320 from by rw[Z7 (Am hp F2)];simp);have gN:(U6 (J8 p F2) 0).row.length=20:=((Am hp F2).at 0).row;go_wp2_with fail;rw[←aF,←aH,←aI,←aJ];clear cK iI cL aN gN;obtain⟨cM,eG⟩:=E9 (bB.heap.size);rw[←eG]at aY aX bR bS bT bU fL cB cC cD cE cF fO;try rw[←eG]
  have fQ:w.heap.size+3≤iT.heap.size:=by have hz:=gG;rw[aJ,aI,aH,aF];first | (simp;omega) | (simp[World.setCell];omega)
  clear aF aH aI aJ eG bJ bK bL bM iF gG bN bO bP bQ aR fK aS aT aU aV aO fM bV bX bY bZ cA aW fN;go_loopw [8] (fun x8 wr=>∃m:Nat,0≤m∧m≤64∧x8=.int .i64 (63-(m:Int))∧Bk wr (w.heap.size) 140 (C9 p.row)∧Bk wr (w.heap.size+1) 23 (c8 n)∧Bk wr (w.heap.size+2) 140 (C9 (M1 20))∧Bk wr (gL) 138 (C9 F2)∧Bk wr (cM) 177 (C9 (Pl (J8 p F2)))∧Bk wr (cM+1) 140 (C9 (Iv p n m).row)∧Below w.heap.size w wr∧w.heap.size+3≤wr.heap.size) (fun x8 _=>(intOf x8+1).toNat)
  case atStart=>exact ⟨0,by omega,by omega,rfl,cG,cH,cI,cJ,aY,aX,fP,fQ⟩
  case round=>
   clear fP fQ cG cH cI cJ aY aX;obtain⟨m,jM,hm,rfl,aG,aB,aD,aC,aE,aA,dG,cU⟩:=hrel;by_cases hltm:m<64
   ·
    obtain⟨s,hs⟩:=E9 (63-m);have es:63-(m:Int)=(s:Int):=by omega
    have iU:s<64:=by omega
    have hd:decide (0≤(s:Int))=true:=decide_eq_true (by omega);rw[es];have HM:Hid (Iv p n (m+1)=Ac (Cq 4 (Iv p n m)) (U6 (J8 p F2) (dg n s)) F2):=Lib.hid (by rw[hs];rfl);have ES:=Lib.hid es;clear hs es;have iV:=B5m n s;go_wp2_with fail;go_loopw [24] (fun x24 wr=>∃q:Nat,0≤q∧q≤4∧x24=.int .i64 (q:Int)∧Bk wr (w.heap.size) 140 (C9 p.row)∧Bk wr (w.heap.size+1) 23 (c8 n)∧Bk wr (w.heap.size+2) 140 (C9 (M1 20))∧Bk wr (gL) 138 (C9 F2)∧Bk wr (cM) 177 (C9 (Pl (J8 p F2)))∧Bk wr (cM+1) 140 (C9 (Cq q (Iv p n m)).row)∧Below w.heap.size w wr∧w.heap.size+3≤wr.heap.size) (fun x24 _=>4-(intOf x24).toNat)
    case atStart=>exact ⟨0,by omega,by omega,rfl,aG,aB,aD,aC,aE,aA,dG,cU⟩
    case round=>
     clear dG cU aG aB aD aC aE aA;obtain⟨q,jN,hq,rfl,aG,aB,aD,aC,aE,aA,dG,cU⟩:=hrel;by_cases hltq:q<4
     ·
      have jO:decide ((q:Int)<4)=true:=decide_eq_true (by omega);have f20:=Bk.row64 (n:=20) (aA) ((Ei (Gc hp n m) q).row);go_wp2_with fail;clear f20;refine (Qm (Cq q (Iv p n m)) (Ei (Gc hp n m) q) wr).mono ?_;rintro e iW ⟨rfl,cV⟩;have iJ:=Q5 dG cV;have iK:=Nat.le_trans cU cV.size;have dI:=aG.bl cV;have dJ:=aB.bl cV;have dK:=aD.bl cV;have dL:=aC.bl cV;have dM:=aE.bl cV;have cN:=aA.bl cV;clear cV dG cU aG aB aD aC aE aA;obtain⟨iX,aK⟩:=E9 (C4 iW ⟨cM+1,0,none⟩ (C9 (Js (Cq q (Iv p n m))).row));have eH:Bk iX (cM+1) 140 (C9 (Js (Cq q (Iv p n m))).row):=by rw[aK];exact Bk.put64 (cN) ((Ei (Gc hp n m) q).row) ((Gv (Cq q (Iv p n m))).row)
      have eI:=U1 aK dI (by omega);have eJ:=U1 aK dJ (by omega);have eK:=U1 aK dK (by omega);have eL:=U1 aK dL (by omega);have eM:=U1 aK dM (by omega);have gO:=Iu aK iJ (by omega);have eN:=Uh 20 cN ((Ei (Gc hp n m) q).row);have aN:(Js (Cq q (Iv p n m))).row.length=20:=(Gv (Cq q (Iv p n m))).row;go_wp2_with fail;rw[←aK];clear eN aN;have gP:=ZP' aK iK;clear aK dI dJ dK dL dM cN iJ iK;go_roundw;case rel=>exact ⟨q+1,by omega,by omega,by go_num,eI,eJ,eK,eL,eM,eH,gO,gP⟩
      case measure=>simp[intOf];omega
     ·
      obtain rfl:q=4:=by omega
      have e4:((4:Nat):Int)=4:=rfl;rw[e4];clear e4;go_wp2_with fail;have iL:=Kg wr;refine Jh (fun W=>Bk W (w.heap.size+1) 23 (c8 n)∧Bk W (gL) 138 (C9 F2)) ?_;refine Fs (A:=?iY) [1,2,6] ⟨(aB.drew),(aC.drew)⟩ (fun W hW=>?gQ) ?iZ;case gQ=>have f1:=Bk.row8 (n:=32) (hW.1) (hn);have f6:=Bk.row64 (n:=5) (hW.2) (O7);exact Gq
      refine N8 [zv 0 29 (H8 (Cq 4 (Iv p n m)).row),zv 3 32 (.int .u8 ((dg n s:Nat):Int)),zv 4 33 (.pointer (some ⟨cM,(dg n s)*20,none⟩)),zv 5 34 (H8 (U6 (J8 p F2) (dg n s)).row),zv 7 36 (H8 (Ac (Cq 4 (Iv p n m)) (U6 (J8 p F2) (dg n s)) F2).row)] (by kernel_rfl) (fun W hW=>⟨(aB.drew.bl hW),(aC.drew.bl hW)⟩) ?eO ?eP ?eQ;case eO=>exact MO'
      case eP=>
       refine (Z3 ⟨?fR,(Z3 ⟨?fS,(Z3 ⟨?fT,(Z3 ⟨?fU,(Z3 ⟨?fV,Zh⟩)⟩)⟩)⟩)⟩);case fR=>
        intro o ho us W hW hp Q' hQ';obtain rfl:=Option.some.inj ho;clear hp ho;rw[C1]at hQ' ⊢;dsimp only[C7,E5,List.foldl,zv,za]at hQ' ⊢;simp only[Cy];have f0:=Bk.row64 (n:=20) (aA.drew.bl hW) ((Ei (Gc hp n m) 4).row);go_wp2_with fail;exact Ea (hQ' _ _ (Below.refl _ _) rfl nofun)
       case fS=>exact KC' fun W=>Wb n hn s (by omega) W
       case fT=>intro o ho us W hW hp Q' hQ';obtain rfl:=Option.some.inj ho;have dN:us 3=(.int .u8 ((dg n s:Nat):Int)):=hp 1 _ rfl (by kernel_rfl);clear hp ho;rw[C1]at hQ' ⊢;dsimp only[C7,E5,List.foldl,zv,za]at hQ' ⊢;simp only[Cy];rw[dN]at hQ' ⊢;clear dN;go_wp2_with fail;exact Ea (hQ' _ _ (Below.refl _ _) rfl nofun)
       case fU=>intro o ho us W hW hp Q' hQ';obtain rfl:=Option.some.inj ho;have fW:us 4=(.pointer (some ⟨cM,(dg n s)*20,none⟩)):=hp 2 _ rfl (by kernel_rfl);clear hp ho;rw[C1]at hQ' ⊢;dsimp only[C7,E5,List.foldl,zv,za]at hQ' ⊢;simp only[Cy];rw[fW]at hQ' ⊢;clear fW;have f5:=show C8 _ ⟨_,(dg n s)*20,none⟩ 20=some (C9 (U6 (J8 p F2) (dg n s)).row) from Bk.plAt (i:=(dg n s)) (aE.drew.bl hW) (Am hp F2) (by simp;try omega);go_wp2_with fail;exact Ea (hQ' _ _ (Below.refl _ _) rfl nofun)
       case fV=>intro o ho us W hW hp Q' hQ';obtain rfl:=Option.some.inj ho;have fX:us 0=(H8 (Cq 4 (Iv p n m)).row):=hp 0 _ rfl (by kernel_rfl);have dN:us 3=(.int .u8 ((dg n s:Nat):Int)):=hp 1 _ rfl (by kernel_rfl);have fY:us 5=(H8 (U6 (J8 p F2) (dg n s)).row):=hp 3 _ rfl (by kernel_rfl);clear hp ho;rw[C1]at hQ' ⊢;dsimp only[C7,E5,List.foldl,zv,za]at hQ' ⊢;simp only[Cy];rw[fX,dN,fY]at hQ' ⊢;clear fX dN fY;go_wp2_with fail;refine (Uc (Cq 4 (Iv p n m)) (U6 (J8 p F2) (dg n s)) F2 (Ei (Gc hp n m) 4) ((Am hp F2).at (dg n s)) O7 W).mono ?_;rintro e W2 ⟨rfl,b2⟩;go_wp2_with fail;exact Ea (hQ' _ _ b2 rfl nofun)
      case eQ=>
      intro us jA iM hg eA gK;have fX:us 0=(H8 (Cq 4 (Iv p n m)).row):=hg _ (Ca 0 rfl);have dN:us 3=(.int .u8 ((dg n s:Nat):Int)):=hg _ (Ca 1 rfl);have fW:us 4=(.pointer (some ⟨cM,(dg n s)*20,none⟩)):=hg _ (Ca 2 rfl);have fY:us 5=(H8 (U6 (J8 p F2) (dg n s)).row):=hg _ (Ca 3 rfl);have iN:us 7=(H8 (Ac (Cq 4 (Iv p n m)) (U6 (J8 p F2) (dg n s)) F2).row):=hg _ (Ca 4 rfl);have cW:=Q5 iL iM;refine RP' ?_;rw[fX,dN,fW,fY,iN];clear hg eA gK fX dN fW fY iN iM iL;have iO:=Q5 dG cW;have iP:=Nat.le_trans cU cW.size;have dO:=aG.bl cW;have dQ:=aB.bl cW;have dS:=aD.bl cW;have dT:=aC.bl cW;have dU:=aE.bl cW;have cO:=aA.bl cW;clear cW dG cU aG aB aD aC aE aA;obtain⟨jB,aL⟩:=E9 (C4 jA ⟨cM+1,0,none⟩ (C9 (Ac (Cq 4 (Iv p n m)) (U6 (J8 p F2) (dg n s)) F2).row));have fZ:Bk jB (cM+1) 140 (C9 (Ac (Cq 4 (Iv p n m)) (U6 (J8 p F2) (dg n s)) F2).row):=by rw[aL];exact Bk.put64 (cO) ((Ei (Gc hp n m) 4).row) ((Ej (Cq 4 (Iv p n m)) (U6 (J8 p F2) (dg n s)) F2).row)
      have gA:=U1 aL dO (by omega);have dW:=U1 aL dQ (by omega);have gC:=U1 aL dS (by omega);have dX:=U1 aL dT (by omega);have gF:=U1 aL dU (by omega);have jC:=Iu aL iO (by omega);have eS:=Uh 20 cO ((Ei (Gc hp n m) 4).row);have eT:(Ac (Cq 4 (Iv p n m)) (U6 (J8 p F2) (dg n s)) F2).row.length=20:=(Ej (Cq 4 (Iv p n m)) (U6 (J8 p F2) (dg n s)) F2).row;refine Ci 8 fun Q' hQ'=>?_;dsimp only[C7];go_wp2_with fail;rw[←aL];refine hQ' _ _ ⟨dW,dX⟩ ?_;clear hQ' eS eT;have jD:=ZP' aL iP;clear aL iO iP dO dQ dS dT dU cO;refine It ?_;go_wp2_with fail;go_roundw;case rel=>exact ⟨m+1,by omega,by omega,by rw[←ES.out];all_goals (simp<;>omega),gA,dW,gC,dX,gF,(by rw[HM.out];exact fZ),jC,jD⟩
      case measure=>have:=ES.out;simp[intOf]<;>omega
   ·
    obtain rfl:m=64:=by omega
    obtain⟨jP,aM⟩:=E9 (C4 wr ⟨w.heap.size+2,0,none⟩ (C9 (Iv p n 64).row));have eU:=Zx 20 aM aD (by simp) ((Gc hp n 64).row);have gR:=U1 aM aG (by omega);have gS:=U1 aM aB (by omega);have gT:=U1 aM aC (by omega);have gU:=U1 aM aE (by omega);have gV:=U1 aM aA (by omega);have gW:=Iu aM dG (by omega);have jE:=Bk.row64 (n:=20) (aA) ((Gc hp n 64).row);have eV:=Uh 20 aD (by simp);have aN:(Iv p n 64).row.length=20:=(Gc hp n 64).row;go_wp2_with fail;rw[←aM];clear jE eV aN;have jF:=ZP' aM cU;clear aM cU;have eX:(Iv p n 64).row.length=20:=(Gc hp n 64).row;refine bodyPost_ret (C5 rfl _ _ _ _ _ _ rfl eU Jd rfl (by simp[Tm,eX])) rfl ⟨by rw[HZ.out];rfl,gW⟩
 case true=>have HZ:=Lib.hid (B6n n hz);clear hz;have jG:=Bk.row8 (n:=32) (bC) (hn);go_wp2_with fail;clear jG;refine (C3f n hn W2).mono ?_;rintro e Qg ⟨rfl,fC⟩;have iQ:=Q5 B2 fC;have z32:=Nat.le_trans z2 fC.size;have dY:=cS.bl fC;have dZ:=bC.bl fC;have cP:=cT.bl fC;clear fC B2 z2 cS bC cT;obtain⟨jQ,aZ⟩:=E9 (C4 Qg ⟨w.heap.size+2,0,none⟩ (C9 (Rt n).row));have eY:=Zx 20 aZ cP (by simp) ((Ug n).row);have gY:=U1 aZ dY (by omega);have gZ:=U1 aZ dZ (by omega);have iA:=Iu aZ iQ (by omega);have eZ:=Uh 20 cP (by simp);have aN:(Rt n).row.length=20:=(Ug n).row;go_wp2_with fail;rw[←aZ];clear eZ aN;have jH:=ZP' aZ z32;clear aZ dY dZ cP iQ z32;have eX:(Rt n).row.length=20:=(Ug n).row;refine bodyPost_ret (C5 rfl _ _ _ _ _ _ rfl eY Jd rfl (by simp[Tm,eX])) rfl ⟨by rw[HZ.out];rfl,iA⟩
section
def Rk (c e:UInt8):List UInt8:=c::e::z8 30
attribute [simp, go_sem] Lf
@[simp, go_sem] theorem Pu (c e : UInt8) : (Rk c e).length = 32 := by simp [Rk]
theorem C6e (c e:UInt8) (w:World):(Instr.build 23 #[(0,v8 c),(1,v8 e)]).run Tryz.prog w=.ok (A8 (Rk c e)) w:=by kernel_rfl
attribute [irreducible] Rk
open Classical in
noncomputable def Ln (w:World) (raw:Result Next) (v u:Value):Result Next:=if h:∃p:UInt8×UInt8,v=v8 p.1∧u=v8 p.2 then .ok (.value (A8 (Rk h.choose.1 h.choose.2))) w else raw
theorem Rs (w:World) (raw:Result Next) (c e:UInt8):Ln w raw (v8 c) (v8 e)=.ok (.value (A8 (Rk c e))) w:=by
 have h:∃p:UInt8×UInt8,v8 c=v8 p.1∧v8 e=v8 p.2:=⟨(c,e),rfl,rfl⟩;unfold Ln;rw[dif_pos h,←C0j h.choose_spec.1,←C0j h.choose_spec.2]
@[go_sem] theorem E0m (w : World) (raw : Result Next) (c e : UInt8) : Ln w raw (.int .u8 (n8 c)) (.int .u8 (n8 e)) = .ok (.value (A8 (Rk c e))) w := Rs w raw c e
@[go_sem] theorem D9s (w : World) (raw : Result Next) (c : UInt8) : Ln w raw (.int .u8 (n8 c)) (.int .u8 77) = .ok (.value (A8 (Rk c 77))) w := Rs w raw c 77
@[go_sem] theorem E3t (w : World) (raw : Result Next) (c : UInt8) : Ln w raw (.int .u8 (n8 c)) (.int .u8 3) = .ok (.value (A8 (Rk c 3))) w := Rs w raw c 3
@[go_sem ↓ high] theorem D9l (w : World) (ρ : Operand → Value) (dst : Option Tmp) (ty : TypeId) (pos : String) (after : Array Edge) (guard : Option (Nat × Bool)) (x y : Operand) :
 (execOp ρ { dst,op:=.build 23 #[(0,x),(1,y)],type:=ty,pos,after,guard }).run Tryz.prog w=Ln w (L3 Tryz.prog ρ { dst,op:=.build 23 #[(0,x),(1,y)],type:=ty,pos,after,guard } w) (ρ x) (ρ y):=by
 unfold Ln;split
 ·rename_i h
  have h1:=h.choose_spec;generalize h.choose=c at h1;refine N9 w ρ dst ty pos after guard _ _ _ ?_;simp only[List.map_toArray,List.map_cons,List.map_nil,h1.1,h1.2];exact C6e c.1 c.2 w
 ·rfl
def Sw (p:Pn):Bool:=E3 (A2n 3 p)==h1 1
set_option maxRecDepth 100000
theorem B7i (p:Pn) (hp:p.Ok) (w:World):Calls Tryz.prog 114 #[H8 p.row] w fun e w'=>e=.returned (.bool (Sw p))∧Below w.heap.size w w':=by
 rw[Pn.seg];have h3:(A2n 3 p).Ok:=Oo _ _;exact U7 (g:=gPt) 100 (p.av hp) [dP (B9d p p hp hp) (Oo _ _),dP (B9d (B3l p p) (B3l p p) (Oo _ _) (Oo _ _)) (Oo _ _),dP (B9d (A2n 2 p) (A2n 2 p) (Oo _ _) (Oo _ _)) h3,dH (C2o (A2n 3 p) h3) (J0 _),dEq (E3 (A2n 3 p)) (h1 1) (J0 _) (Lf _) rfl] Bq Tryz.func114 (by kernel_rfl) w
end
end Go.Proofs.YtlegpkdighoflaaGreat
