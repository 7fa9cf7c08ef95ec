/- A part of the proof of DirPlays. -/
import Derived.WalkKit
import Derived.OwnWalkIn
import Derived.TacticsInMore
import Derived.Test.YtlegpkdighoflaaGreatRbm
set_option linter.unusedVariables false
set_option linter.unusedSimpArgs false
set_option maxRecDepth 100000
set_option maxHeartbeats 40000000
namespace Go.Proofs.YtlegpkdighoflaaGreat
open Go Go.RowKit Sh
section
section
variable {w wr : World} {M b m : Nat} {ov gv uv bv : Value} {os gs : List Value} {bs : List (List UV)} {us : List UV}
theorem A1p {base sz k:Nat} {T:TypeId} {v:Value} {xs:List Value} (ho:wr.ownsRow base T sz v k xs) (hr:∀r,some b=some r→∃o:Obj,wr.heap[r]?=some o∧o.isCells=false):v.ownBlock=none∨v.ownBlock≠some b:=by
 obtain⟨o,h1,h2⟩:=hr b rfl;rcases ho.2 with ⟨hv,_⟩ | ⟨g,cap,cur,hv,_,hh,_⟩
 ·left;rw[hv];rfl
 ·right
  rw[hv];intro e;injection e with e;subst e;rw[hh]at h1;injection h1 with h1;subst h1;cases h2
theorem US.own {w':World} {B:Nat} {v:Value} {us:List UV} (h:US wr B v us) (hg:wr.grownBy w' (some b)) (hr:∀r,some b=some r→∃o:Obj,wr.heap[r]?=some o∧o.isCells=false):US w' B v us:=by
 rcases h with h | ⟨g,tl,c,h1,h2,h3⟩
 ·exact .inl h
 ·exact .inr ⟨g,tl,c,h1,⟨h2.1,Db h2.2 hg hr⟩,h3⟩
theorem BS.own {w':World} {B:Nat} {v:Value} {us:List Bool} (h:BS wr B v us) (hg:wr.grownBy w' (some b)) (hr:∀r,some b=some r→∃o:Obj,wr.heap[r]?=some o∧o.isCells=false):BS w' B v us:=by
 rcases h with h | ⟨g,tl,c,h1,h2,h3⟩
 ·exact .inl h
 ·exact .inr ⟨g,tl,c,h1,Db h2 hg hr,h3⟩
theorem BaI.map (h:BaI w wr M b m ov gv uv bv os gs bs us) (hb:w.heap.size≤b) {w6:World} {D:DataW Value} (ho:w6.ownsMap Tryz.prog 3 RI b (m+1) D) (hg:wr.grownBy w6 (some b)):BaI w w6 M b (m+1) ov gv uv bv os gs bs us:=
 ⟨World.ownsRow.kept h.out hg (A1p h.out h.mc.row),World.ownsRow.kept h.good hg (A1p h.good h.mc.row),h.lo.mono fun _ _ x=>x.own hg h.mc.row,h.lg.mono fun _ _ x=>x.own hg h.mc.row,
  ⟨h.uo.1,World.ownsRow.kept h.uo.2 hg (A1p h.uo.2 h.mc.row)⟩,World.ownsRow.kept h.bo hg (A1p h.bo h.mc.row),⟨D,ho⟩,h.hM,Nat.le_trans h.hW hg.size,h.below.grown hg h.below.size (fun k e=>by cases e;exact hb)⟩
theorem BaI.app (h:BaI w wr M b m ov gv uv bv os gs bs us) {u:UV} {g:Bool} (hu:u.Ok) (hgb:signedB u=g) {w7 w8:World} {A7 A8:Option Addr} {c7 c8:Nat}
 (h7:w7.ownsRow M 63 129 (.slice A7 (us.length+1) c7) (us.length+1) (us.flatMap Ch++Ch u)) (b7:Below M wr w7) (g7:wr.grownBy w7 uv.ownBlock)
 (h8:w8.ownsRow M 4 1 (.slice A8 (us.length+1) c8) (us.length+1) ((us.map signedB).map Value.bool++[.bool g])) (b8:Below M w7 w8) (g8:w7.grownBy w8 bv.ownBlock) :
 BaI w w8 M b m ov gv (.slice A7 (us.length+1) c7) (.slice A8 (us.length+1) c8) os gs bs (us++[u]):=by
 have aC:=World.ownsRow.kept h.bo g7 (T9 h.bo h.uo.2 (by decide));have aB:=World.ownsRow.kept h.out g7 (T9 h.out h.uo.2 (by decide));have aA:=World.ownsRow.kept h.good g7 (T9 h.good h.uo.2 (by decide));refine ⟨World.ownsRow.kept aB g8 (T9 aB aC (by decide)),World.ownsRow.kept aA g8 (T9 aA aC (by decide)),h.lo.mono fun _ _ x=>(x.below b7).below b8,h.lg.mono fun _ _ x=>(x.below b7).below b8,⟨?_,?_⟩,?_,(h.mc.own h.uo.2 g7).own aC g8,h.hM,Nat.le_trans h.hW (Nat.le_trans b7.size b8.size),h.below.trans ((b7.trans b8).mono h.hM)⟩
 ·intro x hx;rcases List.mem_append.1 hx with hx | hx
  ·exact h.uo.1 x hx
  ·simp at hx;subst hx;exact hu
 ·have:=World.ownsRow.kept h7 g8 (T9 h7 aC (by decide));simpa using this
 ·unfold OwnB;subst hgb;simpa using h8
theorem BaI.cut (h:BaI w wr M b m ov gv uv bv os gs bs us) {w9 w10:World} {A9 A10:Option Addr} {c9 c10:Nat}
 (h9:w9.ownsRow w.heap.size 39 1 (.slice A9 (os.length+1) c9) (os.length+1) (os++[uv])) (b9:Below w.heap.size wr w9) (g9:wr.grownBy w9 ov.ownBlock)
 (h10:w10.ownsRow w.heap.size 41 1 (.slice A10 (gs.length+1) c10) (gs.length+1) (gs++[bv])) (b10:Below w.heap.size w9 w10) (g10:w9.grownBy w10 gv.ownBlock) :
 BaI w w10 w10.heap.size b m (.slice A9 (os.length+1) c9) (.slice A10 (gs.length+1) c10) (.slice none 0 0) (.slice none 0 0) (os++[uv]) (gs++[bv]) (bs++[us]) []:=by
 have aA:=World.ownsRow.kept h.good g9 (T9 h.good h.out (by decide));have hs:=Nat.le_trans h.hW (Nat.le_trans b9.size b10.size);have aB:=Nat.le_trans b9.size b10.size;have fu:∀ {B:Nat} {v:Value} {us:List UV},US wr B v us→US w10 B v us:=fun x=>(x.grown h.out (by decide) g9).grown aA (by decide) g10;have fb:∀ {B:Nat} {v:Value} {us:List Bool},BS wr B v us→BS w10 B v us:=fun x=>(x.grown h.out (by decide) g9).grown aA (by decide) g10;refine ⟨?_,?_,Lot.snoc ((fu h.uo.us).more aB) (h.lo.mono fun _ _ x=>(fu x).more hs),?_,⟨fun u hu=>(by cases hu),World.ownsRow_nil _ _ _ _⟩,World.ownsRow_nil _ _ _ _,(h.mc.own h.out g9).own aA g10,Nat.le_trans h.hM hs,Nat.le_refl _,(h.below.trans b9).trans b10⟩
 ·have:=World.ownsRow.kept h9 g10 (T9 h9 aA (by decide));simpa using this
 ·simpa using h10
 ·rw[List.map_append,List.map_singleton];exact Lot.snoc ((fb h.bo.bs).more aB) (h.lg.mono fun _ _ x=>(fb x).more hs)
end
def BatchIs (w:World) (ov gv:Value) (bs:List (List UV)):Prop:=∃os gs:List Value,w.ownsRow 0 39 1 ov os.length os∧w.ownsRow 0 41 1 gv gs.length gs∧Lot (US w w.heap.size) os bs∧Lot (BS w w.heap.size) gs (bs.map (·.map signedB))
theorem C3a:RA' 80 #[.int .i64 0,.int .i64 0,.int .i64 0,.bool false,.bool false]:=fun w ρ dst ty pos after guard=>O9 w ρ dst ty pos after guard 80 (.agg (AV.cells ⟨0,0,0,false,false⟩).toArray) D0h
def D1g (w:World) (raw:Result Next) (x y:Value):Result Next:=Cj 5 w raw x y
theorem B7g (w:World) (ρ:Operand→Value) (dst:Option Tmp) (ty:TypeId) (pos:String) (after:Array Edge) (guard:Option (Nat×Bool)) (x y:Operand) :
 (execOp ρ { dst,op:=.store 80 x y,type:=ty,pos,after,guard }).run Tryz.prog w=D1g w (L3 Tryz.prog ρ { dst,op:=.store 80 x y,type:=ty,pos,after,guard } w) (ρ x) (ρ y):=C5n w ρ dst ty pos after guard x y
theorem BaI.made {w wr:World} {M b m:Nat} {ov gv uv bv:Value} {os gs:List Value} {bs:List (List UV)} {us:List UV} (h:BaI w wr M b m ov gv uv bv os gs bs us):BatchIs wr ov gv bs:=
 ⟨os,gs,Yj h.out (Nat.zero_le _),Yj h.good (Nat.zero_le _),h.lo.mono fun _ _ x=>x.more h.hW,h.lg.mono fun _ _ x=>x.more h.hW⟩
attribute [local go_sem ↓ high] D2k B7g C3a
theorem B4a (v:Value) (l:List AV) (w:World) (hv:As w w.heap.size v l):Calls Tryz.prog 8 #[v] w fun x w'=>∃ov gv bs,x=.returned (.tuple #[ov,gv])∧BatchIs w' ov gv bs∧bs.length≤13∧(∀b∈bs,b.length≤12)∧Below w.heap.size w w':=by
 have HA:=Lib.hid hv;obtain⟨A,c,rfl,cW,dJ,_⟩:=hv;obtain⟨n,hn⟩:=E9 (l.length);have HN:=Lib.hid hn;rw[←hn]at HA cW ⊢;clear hn;obtain⟨W0,bT⟩:=E9 (w.alloc (.map #[] 0));have B0:=BA' bT;have I0:BaI w W0 W0.heap.size w.heap.size 0 (.slice none 0 0) (.slice none 0 0) (.slice none 0 0) (.slice none 0 0) [] [] [] []:=
  ⟨World.ownsRow_nil _ _ _ _,World.ownsRow_nil _ _ _ _,trivial,trivial,⟨fun u h=>(by cases h),World.ownsRow_nil _ _ _ _⟩,World.ownsRow_nil _ _ _ _,by rw[bT];exact MapC.made w,by rw[bT];simp,Nat.le_refl _,B0⟩
 have cX:=@run_makeMap Tryz.prog;have bS:(Ws (Qj 129)).cells.size=129:=by simp[Ws,Ch,Qj,Value.cells]
 have aJ:∀ {b:Bool},∀u∈[Value.bool b],u.oneCell'=true:=fun {b} u hu=>by simp at hu;subst hu;rfl
 have aD:∀ {A:Option Addr} {n c:Nat},∀u∈[Value.slice A n c],u.oneCell'=true:=fun {A n c} u hu=>by simp at hu;subst hu;rfl
 go_enter Tryz.func8,Tryz.ntmps8;go_wp2_with fail;rw[←bT];clear bT B0 cX;go_loopw [4,5,6,7,18] (fun ov gv uv bv x wr=>∃(i M m:Nat) (os gs:List Value) (bs:List (List UV)) (us:List UV),i≤n∧i≤12∧x=.int .i64 (i:Int)∧BaI w wr M w.heap.size m ov gv uv bv os gs bs us∧m≤i∧us.length≤i∧bs.length≤i∧∀b∈bs,b.length≤12) (fun _ _ _ _ x _=>n-(intOf x).toNat)
 case atStart=>exact ⟨0,_,0,[],[],[],[],by omega,by omega,rfl,I0,Nat.le_refl _,Nat.le_refl _,Nat.le_refl _,fun b h=>(by cases h)⟩
 case round=>
  clear I0;obtain⟨i,M,m,os,gs,bs,us,hi,cY,rfl,I,dK,dL,dM,bL⟩:=hrel;by_cases hlt:i<n
  ·have hd:decide ((i:Int)<(n:Int))=true:=decide_eq_true (by omega);have cZ:=decide_eq_true hlt;obtain⟨a,ha⟩:∃a,l[i]?=some a:=⟨_,List.getElem?_eq_getElem (by rw[←HN.out];exact hlt)⟩;obtain⟨g,o,rfl,hg,bU⟩:=HA.out.at_ ha;have dN:=(N6 (a:=⟨g,o+i*5,none⟩) I.below hg).trans bU;have k0:Bk (wr.alloc (Obj.cells #[.int .i64 0,.int .i64 0,.int .i64 0,.bool false,.bool false] 80)) wr.heap.size 80 [.int .i64 0,.int .i64 0,.int .i64 0,.bool false,.bool false]:=Bk.new wr _ _;have bA:=Mh 5 k0 (by simp);obtain⟨W,hW⟩:=E9 (C4 (wr.alloc (Obj.cells #[.int .i64 0,.int .i64 0,.int .i64 0,.bool false,.bool false] 80)) ⟨wr.heap.size,0,none⟩ [.int .i64 a.who,.int .i64 a.ver,.int .i64 a.key,.bool a.wrong,.bool a.cut]);have kA:Bk W wr.heap.size 80 [.int .i64 a.who,.int .i64 a.ver,.int .i64 a.key,.bool a.wrong,.bool a.cut]:=by rw[hW];exact k0.puts (by simp)
   have IW:=I.up (w':=W) (by rw[hW];exact C0 (Bh _ _) (Nat.le_refl _) _);clear ha bU k0 I;have a0:=kA.at_ (i:=0) rfl;have a1:=kA.at_ (i:=1) rfl;have a2:=kA.at_ (i:=2) rfl;have dC:∀raw,D1g (wr.alloc (Obj.cells #[.int .i64 0,.int .i64 0,.int .i64 0,.bool false,.bool false] 80)) raw (.pointer (some ⟨wr.heap.size,0,none⟩)) (.agg a.cells.toArray)=.ok .skip W:=fun raw=>by unfold D1g;rw[hW];exact B2w _ _ _ _ _ _ _ _ bA
   clear hW bA;by_cases h12:12≤i
   ·have cJ:decide ((12:Int)≤(i:Int))=true:=decide_eq_true (by omega);have cK:=decide_eq_true h12;have II:=IW;have bO:=II.lo.len;have aU:gs.length=bs.length:=by have:=II.lg.len;simpa using this
    obtain⟨Au,cu,rfl,_,_⟩:=Ai II.uo.2;obtain⟨Ab,cb,bV,_,_⟩:=Ai II.bo;rw[List.length_map]at bV;subst bV;go_wp2_with (first | (at_builtin;refine Cn 25 39 (.slice none 0 0) 1 24 Tryz.underlying25 A3o rfl (by decide) (by decide) rfl _ _ rfl rfl II.out [.slice Au us.length cu] rfl aD _ rfl rfl rfl (by omega) II.below.size ?_;intro A9 c9 w9 cE cF aF aV aW bH;have aG:=World.ownsRow.kept II.good aW (T9 II.good II.out (by decide));have aK:=Nat.le_trans II.below.size aV.size) | (at_builtin;refine Cn 26 41 (.slice none 0 0) 1 24 Tryz.underlying26 A2d rfl (by decide) (by decide) rfl _ _ rfl rfl aG [.slice Ab us.length cb] rfl aD _ rfl rfl rfl (by omega) aK ?_;intro cG cH bP bI bJ aB aL aM aX));have aS:=II.cut aF aV aW aB aL aM;rw[bO,aU]at aS;exact bodyPost_ret (Y7 rfl (N7.tmp rfl) (N7.tmp rfl)) rfl ⟨_,_,bs++[us],rfl,aS.made,by simp;omega,fun b hb=>by
     rcases List.mem_append.1 hb with hb | hb
     ·exact bL b hb
     ·simp at hb;subst hb;omega,aS.below⟩
   ·have cJ:decide ((12:Int)≤(i:Int))=false:=decide_eq_false (by omega);have cK:decide (12≤i)=false:=decide_eq_false (by omega);have dD:=A7o a.who;have dF:=A3m a.key;have dO:=A3m (i:Int);have dQ:(F0 (Ik a.who)).tmod 4=F0 (Ik a.who % 4):=by unfold F0;rw[UInt64.toNat_mod];rfl
    have dS:=C9x (Ik a.who);have dT:wrap64 (F0 (Ik a.who % 4))=F0 (Ik a.who % 4):=by have h:=UInt64.toNat_mod (Ik a.who) 4;have h4:(4:UInt64).toNat=4:=rfl;unfold wrap64 F0;rw[h,h4];omega
    obtain⟨y,bX⟩:=IW.mc.look (Ik a.who);cases hv0:(a.ver==0);case' false=>
     go_wp2_with fail;obtain⟨V,hV⟩:=E9 (a.ver)
    case' true=>
     go_wp2_with fail;obtain⟨V,hV⟩:=E9 (wrap64 (y+1))
    all_goals
     rw[←hV];clear hV
    all_goals
     refine (B4d _ _ _ (Pu _ _) (Pu _ _) W).mono ?_;rintro x w2 ⟨rfl,b2⟩;have I2:=IW.up b2;have cL:=kA.bl b2;obtain⟨u,dG⟩:∃u:UV,u.Ok∧Ws u=Ws (mkU (Rk (Ik a.who % 4).toUInt8 77) V (Rk (C2y a.key) (C2y (i:Int)))):=⟨_,D1w _ _ (Pu _ _),rfl⟩;obtain⟨bM,cQ⟩:=dG;rw[←cQ];clear cQ bX a0 a1 a2 dC hv0;have aZ:=bM.len;have bA:=(Bk.new w2 63 (Ch (Qj 129))).canvc (n:=129) (Kd _).len;obtain⟨w3,bG⟩:=E9 (C4 (w2.alloc (Obj.cells (Ch (Qj 129)).toArray 63)) ⟨w2.heap.size,0,none⟩ (Ch u));have ku:Bk w3 w2.heap.size 63 (Ch u):=by rw[bG];exact (Bk.new w2 63 (Ch (Qj 129))).putvc (n:=129) (Kd _).len aZ
     have b3:Below w2.heap.size w2 w3:=by rw[bG];exact C0 (Bh _ _) (Nat.le_refl _) _
     have I3:=I2.up b3;have cI:=cL.bl b3;have c3:=cI.at_ (i:=3) rfl;rw[bG]at c3;obtain⟨x1,dI⟩:∃x1,u.sig[1]?=some x1:=⟨_,List.getElem?_eq_getElem (by rw[bM.sig];decide)⟩;have cM:=UV.sigAt ku bM dI;have cN:=ku.frozen 66;rw[bG]at cM cN;cases hwr:a.wrong;case' false=>
      have bN:=ku.rowvc (n:=129) aZ;rw[bG]at bN;go_wp2_with fail;rw[←bG];clear bN cM cN c3 bG bA;obtain⟨uu,aN⟩:=E9 (u);obtain⟨ww,bQ⟩:=E9 (w3);have bK:uu.Ok:=by rw[aN];exact bM
      have cO:Bk ww w2.heap.size 63 (Ch uu):=by rw[aN,bQ];exact ku
      have II:=I3;have bY:=cI;rw[←bQ]at II bY ⊢;rw[←aN];clear aN bQ
     case' true=>
      have kt:=ku.turn bM (x1 ^^^ 2);have bN:=kt.rowvc (n:=129) (B3r bM _).len;have cR:=I2.up (b3.setCell (p:=⟨w2.heap.size,66,none⟩) (Nat.le_refl _) (.int .u8 (n8 (x1 ^^^ 2))));have cS:=cI.far (p:=⟨w2.heap.size,66,none⟩) (by have:=cL.lt;simp;omega) (.int .u8 (n8 (x1 ^^^ 2)));have cP:=D8b x1;rw[bG]at bN;go_wp2_with fail;rw[←bG];clear bN cM cN c3 bG bA cP;obtain⟨uu,aN⟩:=E9 (A4a u (x1 ^^^ 2));obtain⟨ww,bQ⟩:=E9 (w3.setCell ⟨w2.heap.size,66,none⟩ (.int .u8 (n8 (x1 ^^^ 2))));have bK:uu.Ok:=by rw[aN];exact B3r bM _
      have cO:Bk ww w2.heap.size 63 (Ch uu):=by rw[aN,bQ];exact kt
      have II:=cR;have bY:=cS;rw[←bQ]at II bY ⊢;rw[←aN];clear aN bQ cR cS kt
    all_goals
     clear I3 cI ku bM b3 aZ;refine (A6e uu bK ww).mono ?_;rintro x w5 ⟨rfl,b5⟩;have I5:=II.up b5;have aT:=bY.bl b5;have bR:=cO.bl b5;clear II bY cO b5 b2 I2 cL;generalize w2.heap.size=gu at *;generalize wr.heap.size=ga at *;have aZ:=bK.len
    all_goals
     have bN:=bR.rowvc (n:=129) aZ;have bO:=I5.lo.len;have aU:gs.length=bs.length:=by have:=I5.lg.len;simpa using this
     cases hsg:signedB uu;case false=>
      cases hct:a.cut;case false=>
       go_wp2_with (first | (at_builtin;refine Cn 39 63 (Ws (Qj 129)) 129 136 Tryz.underlying39 Vi bS (by decide) (by decide) rfl _ _ rfl rfl I5.uo.2 (Ch uu) aZ (Px uu) _ rfl rfl rfl (by omega) I5.hW ?_;intro A7 c7 w7 bZ cA aC aO aH bB;have aP:=World.ownsRow.kept I5.bo aH (T9 I5.bo I5.uo.2 (by decide));have aI:=Nat.le_trans I5.hW aO.size) | (at_builtin;refine Cn 41 4 (.bool false) 1 1 Tryz.underlying41 Zw rfl (by decide) (by decide) rfl _ _ rfl rfl aP [.bool false] rfl aJ _ rfl rfl rfl (by rw[List.length_map];omega) aI ?_;intro A8 c8 w8 cB cC aA bC aQ bD;have aA:w8.ownsRow M 4 1 (.slice A8 (us.length+1) c8) (us.length+1) ((us.map signedB).map Value.bool++[.bool false]):=(by simpa using aA);have I8:=I5.app bK hsg aC aO aH aA bC aQ;have aR:=aT.grown aH (Cs aT I5.uo.2 (by decide));have bE:=aR.grown aQ (Cs aR aP (by decide));have c4:=bE.at_ (i:=4) rfl));go_roundw;case rel=>exact ⟨i+1,M,m,os,gs,bs,us++[uu],by omega,by omega,by go_num,I8,by omega,by simp;omega,by omega,bL⟩
       case measure=>simp[intOf];omega
      case true=>
       go_wp2_with (first | (at_builtin;refine Cn 39 63 (Ws (Qj 129)) 129 136 Tryz.underlying39 Vi bS (by decide) (by decide) rfl _ _ rfl rfl I5.uo.2 (Ch uu) aZ (Px uu) _ rfl rfl rfl (by omega) I5.hW ?_;intro A7 c7 w7 bZ cA aC aO aH bB;have aP:=World.ownsRow.kept I5.bo aH (T9 I5.bo I5.uo.2 (by decide));have aI:=Nat.le_trans I5.hW aO.size) | (at_builtin;refine Cn 41 4 (.bool false) 1 1 Tryz.underlying41 Zw rfl (by decide) (by decide) rfl _ _ rfl rfl aP [.bool false] rfl aJ _ rfl rfl rfl (by rw[List.length_map];omega) aI ?_;intro A8 c8 w8 cB cC aA bC aQ bD;have aA:w8.ownsRow M 4 1 (.slice A8 (us.length+1) c8) (us.length+1) ((us.map signedB).map Value.bool++[.bool false]):=(by simpa using aA);have I8:=I5.app bK hsg aC aO aH aA bC aQ;have aR:=aT.grown aH (Cs aT I5.uo.2 (by decide));have bE:=aR.grown aQ (Cs aR aP (by decide));have c4:=bE.at_ (i:=4) rfl) | (at_builtin;refine Cn 25 39 (.slice none 0 0) 1 24 Tryz.underlying25 A3o rfl (by decide) (by decide) rfl _ _ rfl rfl I8.out [.slice A7 (us.length+1) c7] rfl aD _ rfl rfl rfl (by omega) I8.below.size ?_;intro A9 c9 w9 cE cF aF aV aW bH;have aG:=World.ownsRow.kept I8.good aW (T9 I8.good I8.out (by decide));have aK:=Nat.le_trans I8.below.size aV.size) | (at_builtin;refine Cn 26 41 (.slice none 0 0) 1 24 Tryz.underlying26 A2d rfl (by decide) (by decide) rfl _ _ rfl rfl aG [.slice A8 (us.length+1) c8] rfl aD _ rfl rfl rfl (by omega) aK ?_;intro cG cH bP bI bJ aB aL aM aX))
       have aS:=I8.cut aF aV aW aB aL aM;rw[bO,aU]at aS;go_roundw;case rel=>exact ⟨i+1,bP.heap.size,m,_,_,bs++[us++[uu]],[],by omega,by omega,by go_num,aS,by omega,by simp,by simp;omega,fun b hb=>by
        rcases List.mem_append.1 hb with hb | hb
        ·exact bL b hb
        ·simp at hb;subst hb;simp;omega⟩
       case measure=>simp[intOf];omega
     case true=>
      obtain⟨y5,dU⟩:=I5.mc.look (Ik a.who);cases hvc:(V==wrap64 (y5+1));case false=>
       cases hct:a.cut;case false=>
        go_wp2_with (first | (at_builtin;refine Cn 39 63 (Ws (Qj 129)) 129 136 Tryz.underlying39 Vi bS (by decide) (by decide) rfl _ _ rfl rfl I5.uo.2 (Ch uu) aZ (Px uu) _ rfl rfl rfl (by omega) I5.hW ?_;intro A7 c7 w7 bZ cA aC aO aH bB;have aP:=World.ownsRow.kept I5.bo aH (T9 I5.bo I5.uo.2 (by decide));have aI:=Nat.le_trans I5.hW aO.size) | (at_builtin;refine Cn 41 4 (.bool false) 1 1 Tryz.underlying41 Zw rfl (by decide) (by decide) rfl _ _ rfl rfl aP [.bool true] rfl aJ _ rfl rfl rfl (by rw[List.length_map];omega) aI ?_;intro A8 c8 w8 cB cC aA bC aQ bD;have aA:w8.ownsRow M 4 1 (.slice A8 (us.length+1) c8) (us.length+1) ((us.map signedB).map Value.bool++[.bool true]):=(by simpa using aA);have I8:=I5.app bK hsg aC aO aH aA bC aQ;have aR:=aT.grown aH (Cs aT I5.uo.2 (by decide));have bE:=aR.grown aQ (Cs aR aP (by decide));have c4:=bE.at_ (i:=4) rfl));go_roundw;case rel=>exact ⟨i+1,M,m,os,gs,bs,us++[uu],by omega,by omega,by go_num,I8,by omega,by simp;omega,by omega,bL⟩
        case measure=>simp[intOf];omega
       case true=>
        go_wp2_with (first | (at_builtin;refine Cn 39 63 (Ws (Qj 129)) 129 136 Tryz.underlying39 Vi bS (by decide) (by decide) rfl _ _ rfl rfl I5.uo.2 (Ch uu) aZ (Px uu) _ rfl rfl rfl (by omega) I5.hW ?_;intro A7 c7 w7 bZ cA aC aO aH bB;have aP:=World.ownsRow.kept I5.bo aH (T9 I5.bo I5.uo.2 (by decide));have aI:=Nat.le_trans I5.hW aO.size) | (at_builtin;refine Cn 41 4 (.bool false) 1 1 Tryz.underlying41 Zw rfl (by decide) (by decide) rfl _ _ rfl rfl aP [.bool true] rfl aJ _ rfl rfl rfl (by rw[List.length_map];omega) aI ?_;intro A8 c8 w8 cB cC aA bC aQ bD;have aA:w8.ownsRow M 4 1 (.slice A8 (us.length+1) c8) (us.length+1) ((us.map signedB).map Value.bool++[.bool true]):=(by simpa using aA);have I8:=I5.app bK hsg aC aO aH aA bC aQ;have aR:=aT.grown aH (Cs aT I5.uo.2 (by decide));have bE:=aR.grown aQ (Cs aR aP (by decide));have c4:=bE.at_ (i:=4) rfl) | (at_builtin;refine Cn 25 39 (.slice none 0 0) 1 24 Tryz.underlying25 A3o rfl (by decide) (by decide) rfl _ _ rfl rfl I8.out [.slice A7 (us.length+1) c7] rfl aD _ rfl rfl rfl (by omega) I8.below.size ?_;intro A9 c9 w9 cE cF aF aV aW bH;have aG:=World.ownsRow.kept I8.good aW (T9 I8.good I8.out (by decide));have aK:=Nat.le_trans I8.below.size aV.size) | (at_builtin;refine Cn 26 41 (.slice none 0 0) 1 24 Tryz.underlying26 A2d rfl (by decide) (by decide) rfl _ _ rfl rfl aG [.slice A8 (us.length+1) c8] rfl aD _ rfl rfl rfl (by omega) aK ?_;intro cG cH bP bI bJ aB aL aM aX))
        have aS:=I8.cut aF aV aW aB aL aM;rw[bO,aU]at aS;go_roundw;case rel=>exact ⟨i+1,bP.heap.size,m,_,_,bs++[us++[uu]],[],by omega,by omega,by go_num,aS,by omega,by simp,by simp;omega,fun b hb=>by
         rcases List.mem_append.1 hb with hb | hb
         ·exact bL b hb
         ·simp at hb;subst hb;simp;omega⟩
        case measure=>simp[intOf];omega
      case true=>
       obtain⟨D5,cT⟩:=I5.mc;obtain⟨cU,cD⟩:=B2k (Ik a.who);have aY:=I5.mc.row;have cV:m<maxLen:=by unfold maxLen;omega
       cases hct:a.cut;case false=>
        go_wp2_with (first | (at_mapUpdate;refine wpList_mapUpdate_own _ rfl _ _ _ 59 rfl 3 3 Wn Tryz.underlying59 RI w.heap.size m D5 rfl cT cV _ _ cU rfl rfl cD (.held (.int .i64 (wrap64 (y5+1)))) [] rfl ?_;intro w6 bF aE;have aT:=Db aT aE aY;have bR:=Db bR aE aY;have bN:=bR.rowvc (n:=129) aZ;have I5:=I5.map (Nat.le_refl _) bF aE) | (at_builtin;refine Cn 39 63 (Ws (Qj 129)) 129 136 Tryz.underlying39 Vi bS (by decide) (by decide) rfl _ _ rfl rfl I5.uo.2 (Ch uu) aZ (Px uu) _ rfl rfl rfl (by omega) I5.hW ?_;intro A7 c7 w7 bZ cA aC aO aH bB;have aP:=World.ownsRow.kept I5.bo aH (T9 I5.bo I5.uo.2 (by decide));have aI:=Nat.le_trans I5.hW aO.size) | (at_builtin;refine Cn 41 4 (.bool false) 1 1 Tryz.underlying41 Zw rfl (by decide) (by decide) rfl _ _ rfl rfl aP [.bool true] rfl aJ _ rfl rfl rfl (by rw[List.length_map];omega) aI ?_;intro A8 c8 w8 cB cC aA bC aQ bD;have aA:w8.ownsRow M 4 1 (.slice A8 (us.length+1) c8) (us.length+1) ((us.map signedB).map Value.bool++[.bool true]):=(by simpa using aA);have I8:=I5.app bK hsg aC aO aH aA bC aQ;have aR:=aT.grown aH (Cs aT I5.uo.2 (by decide));have bE:=aR.grown aQ (Cs aR aP (by decide));have c4:=bE.at_ (i:=4) rfl));go_roundw;case rel=>exact ⟨i+1,M,m+1,os,gs,bs,us++[uu],by omega,by omega,by go_num,I8,by omega,by simp;omega,by omega,bL⟩
        case measure=>simp[intOf];omega
       case true=>
        go_wp2_with (first | (at_mapUpdate;refine wpList_mapUpdate_own _ rfl _ _ _ 59 rfl 3 3 Wn Tryz.underlying59 RI w.heap.size m D5 rfl cT cV _ _ cU rfl rfl cD (.held (.int .i64 (wrap64 (y5+1)))) [] rfl ?_;intro w6 bF aE;have aT:=Db aT aE aY;have bR:=Db bR aE aY;have bN:=bR.rowvc (n:=129) aZ;have I5:=I5.map (Nat.le_refl _) bF aE) | (at_builtin;refine Cn 39 63 (Ws (Qj 129)) 129 136 Tryz.underlying39 Vi bS (by decide) (by decide) rfl _ _ rfl rfl I5.uo.2 (Ch uu) aZ (Px uu) _ rfl rfl rfl (by omega) I5.hW ?_;intro A7 c7 w7 bZ cA aC aO aH bB;have aP:=World.ownsRow.kept I5.bo aH (T9 I5.bo I5.uo.2 (by decide));have aI:=Nat.le_trans I5.hW aO.size) | (at_builtin;refine Cn 41 4 (.bool false) 1 1 Tryz.underlying41 Zw rfl (by decide) (by decide) rfl _ _ rfl rfl aP [.bool true] rfl aJ _ rfl rfl rfl (by rw[List.length_map];omega) aI ?_;intro A8 c8 w8 cB cC aA bC aQ bD;have aA:w8.ownsRow M 4 1 (.slice A8 (us.length+1) c8) (us.length+1) ((us.map signedB).map Value.bool++[.bool true]):=(by simpa using aA);have I8:=I5.app bK hsg aC aO aH aA bC aQ;have aR:=aT.grown aH (Cs aT I5.uo.2 (by decide));have bE:=aR.grown aQ (Cs aR aP (by decide));have c4:=bE.at_ (i:=4) rfl) | (at_builtin;refine Cn 25 39 (.slice none 0 0) 1 24 Tryz.underlying25 A3o rfl (by decide) (by decide) rfl _ _ rfl rfl I8.out [.slice A7 (us.length+1) c7] rfl aD _ rfl rfl rfl (by omega) I8.below.size ?_;intro A9 c9 w9 cE cF aF aV aW bH;have aG:=World.ownsRow.kept I8.good aW (T9 I8.good I8.out (by decide));have aK:=Nat.le_trans I8.below.size aV.size) | (at_builtin;refine Cn 26 41 (.slice none 0 0) 1 24 Tryz.underlying26 A2d rfl (by decide) (by decide) rfl _ _ rfl rfl aG [.slice A8 (us.length+1) c8] rfl aD _ rfl rfl rfl (by omega) aK ?_;intro cG cH bP bI bJ aB aL aM aX))
        have aS:=I8.cut aF aV aW aB aL aM;rw[bO,aU]at aS;go_roundw;case rel=>exact ⟨i+1,bP.heap.size,m+1,_,_,bs++[us++[uu]],[],by omega,by omega,by go_num,aS,by omega,by simp,by simp;omega,fun b hb=>by
         rcases List.mem_append.1 hb with hb | hb
         ·exact bL b hb
         ·simp at hb;subst hb;simp;omega⟩
        case measure=>simp[intOf];omega
  ·
   have hd:decide ((i:Int)<(n:Int))=false:=decide_eq_false (by omega);have cZ:decide (i<n)=false:=decide_eq_false (by omega);have II:=I;have bO:=II.lo.len;have aU:gs.length=bs.length:=by have:=II.lg.len;simpa using this
   obtain⟨Au,cu,rfl,_,_⟩:=Ai II.uo.2;obtain⟨Ab,cb,bV,_,_⟩:=Ai II.bo;rw[List.length_map]at bV;subst bV;go_wp2_with (first | (at_builtin;refine Cn 25 39 (.slice none 0 0) 1 24 Tryz.underlying25 A3o rfl (by decide) (by decide) rfl _ _ rfl rfl II.out [.slice Au us.length cu] rfl aD _ rfl rfl rfl (by omega) II.below.size ?_;intro A9 c9 w9 cE cF aF aV aW bH;have aG:=World.ownsRow.kept II.good aW (T9 II.good II.out (by decide));have aK:=Nat.le_trans II.below.size aV.size) | (at_builtin;refine Cn 26 41 (.slice none 0 0) 1 24 Tryz.underlying26 A2d rfl (by decide) (by decide) rfl _ _ rfl rfl aG [.slice Ab us.length cb] rfl aD _ rfl rfl rfl (by omega) aK ?_;intro cG cH bP bI bJ aB aL aM aX));have aS:=II.cut aF aV aW aB aL aM;rw[bO,aU]at aS;exact bodyPost_ret (Y7 rfl (N7.tmp rfl) (N7.tmp rfl)) rfl ⟨_,_,bs++[us],rfl,aS.made,by simp;omega,fun b hb=>by
    rcases List.mem_append.1 hb with hb | hb
    ·exact bL b hb
    ·simp at hb;subst hb;omega,aS.below⟩
end
section
section
variable {w w' : World} {g o : Nat} {T : TypeId} {ds vs : List Value}
theorem DirIs.put {dv:Value} {e:Nat} {L:List En} {N:Nat} (h:DirIs w dv e L N) (hk:Bk w g T ds) (hd:B0l ds) (hT:T≠147):DirIs (C4 w ⟨g,o,none⟩ vs) dv e L N:=by
 obtain⟨ap,mv,m,t,h1,h2,h3,h4,h5,h6,h7⟩:=h;refine ⟨ap,mv,m,t,h1,?_,fun k=>?_,h4,h5,h6,?_⟩
 ·rcases h2 with h2 | ⟨b,n,hn,hb,hm⟩
  ·exact .inl h2
  ·refine .inr ⟨b,n,hn,hb,hm.kept (Bj w g o vs) fun e=>?_⟩;obtain⟨ob,q1,q2⟩:=hm.row b rfl;injection e with e;subst e;unfold Bk at hk;rw[hk]at q1;injection q1 with q1;subst q1;cases q2
 ·rcases h3 k with h | ⟨h,hn,ht⟩
  ·exact .inl h
  ·refine .inr ⟨?_,hn,ht.putAt g vs o⟩;have:=D1i (o:=o) (vs:=vs) h hn hk hd;simpa using this
 ·have:=At.put_ hk hT o vs h7;simpa using this
theorem BatchIs.put {ov gv:Value} {bs:List (List UV)} (h:BatchIs w ov gv bs) (hk:Bk w g T ds) (h1:T≠39) (h2:T≠41) (h3:T≠63) (h4:T≠4):BatchIs (C4 w ⟨g,o,none⟩ vs) ov gv bs:=by
 obtain⟨os,gs,a,b,c,d⟩:=h;have hg:=Bj w g o vs;refine ⟨os,gs,World.ownsRow.kept a hg (.inr fun e=>Cs hk a h1 e.symm),World.ownsRow.kept b hg (.inr fun e=>Cs hk b h2 e.symm),c.mono fun v x y=>?_,d.mono fun v x y=>?_⟩
 ·rcases y with y | ⟨g',tl,c',y1,y2,y3⟩
  ·exact .inl y
  ·exact .inr ⟨g',tl,c',y1,⟨y2.1,y2.2.putFar (fun e=>Bk.apart y2.2 hk h3.symm e) _⟩,by simpa using y3⟩
 ·rcases y with y | ⟨g',tl,c',y1,y2,y3⟩
  ·exact .inl y
  ·exact .inr ⟨g',tl,c',y1,y2.putFar (fun e=>Bk.apart y2 hk h4.symm e) _,by simpa using y3⟩
theorem BatchIs.up {ov gv:Value} {bs:List (List UV)} (h:BatchIs w ov gv bs) (hb:Below w.heap.size w w'):BatchIs w' ov gv bs:=by
 obtain⟨os,gs,a,b,c,d⟩:=h;exact ⟨os,gs,Aw a hb (Nat.le_refl _),Aw b hb (Nat.le_refl _),c.mono fun v x y=>(y.below hb).more hb.size,d.mono fun v x y=>(y.below hb).more hb.size⟩
theorem BatchIs.form {ov gv:Value} {bs:List (List UV)} (h:BatchIs w ov gv bs):(∃A c,ov=.slice A bs.length c)∧∃A c,gv=.slice A bs.length c:=by
 obtain⟨os,gs,a,b,c,d⟩:=h;have hc:=c.len;have hd:gs.length=bs.length:=by have:=d.len;simpa using this
 rw[hc]at a;rw[hd]at b;obtain⟨A,n,h1,_⟩:=Ai a;obtain⟨A',n',h2,_⟩:=Ai b;exact ⟨⟨A,n,h1⟩,⟨A',n',h2⟩⟩
theorem BatchIs.at_ {A A':Option Addr} {c c' n n':Nat} {bs:List (List UV)} (h:BatchIs w (.slice A n c) (.slice A' n' c') bs) {i:Nat} {us:List UV} (hi:bs[i]?=some us) :
 ∃g1 g2 u v,A=some ⟨g1,0,none⟩∧A'=some ⟨g2,0,none⟩∧g1<w.heap.size∧g2<w.heap.size∧w.cell? ⟨g1,i,none⟩=some u∧w.cell? ⟨g2,i,none⟩=some v∧US w w.heap.size u us∧BS w w.heap.size v (us.map signedB)∧∀(g:Nat) (T:TypeId) (ds:List Value),Bk w g T ds→39≠T→41≠T→g1≠g∧g2≠g:=by
 obtain⟨os,gs,a,b,cc,d⟩:=h;obtain⟨u,hu,aA⟩:=cc.at_ hi;obtain⟨v,hv,aB⟩:=d.at_ (i:=i) (x:=us.map signedB) (by rw[List.getElem?_map,hi];rfl);rcases Wc a with ⟨_,h0⟩ | ⟨g1,t1,c1,e1,k1,l1⟩
 ·have:=(List.getElem?_eq_some_iff.1 hu).1;omega
 ·rcases Wc b with ⟨_,h0⟩ | ⟨g2,t2,c2,e2,k2,l2⟩
  ·have:=(List.getElem?_eq_some_iff.1 hv).1;omega
  ·injection e1 with e1;injection e2 with e2;have q1:(os++t1)[i]?=some u:=by rw[List.getElem?_append_left (List.getElem?_eq_some_iff.1 hu).1];exact hu
   have q2:(gs++t2)[i]?=some v:=by rw[List.getElem?_append_left (List.getElem?_eq_some_iff.1 hv).1];exact hv
   exact ⟨g1,g2,u,v,e1,e2,l1,l2,k1.at_ q1,k2.at_ q2,aA,aB,fun g T ds hk h1 h2=>⟨Bk.apart k1 hk h1,Bk.apart k2 hk h2⟩⟩
end
noncomputable def allE (bs:List (List UV)):List En:=bs.foldl (fun L us=>applyE us L) []
theorem C6d {bs:List (List UV)} {i:Nat} {us:List UV} (h:bs[i]?=some us):allE (bs.take (i+1))=applyE us (allE (bs.take i)):=by
 have e1:bs.take (i+1)=bs.take i++[us]:=by rw[List.take_add_one,h];rfl
 unfold allE;rw[e1,List.foldl_append];rfl
theorem B9u {L:List En} {u:UV} (ok:OkE L) (hu:u.Ok):OkE (Jv L u)∧(Jv L u).length≤L.length+1∧∀x,(lookE (Jv L u) x).length≤(lookE L x).length+1:=by
 unfold Jv;split
 ·exact ⟨ok.with hu.id hu.key,A7v ok hu.id,fun x=>B1r ok hu.id hu.key (i:=0) (fun y=>Nat.le_refl _) x⟩
 ·exact ⟨ok,Nat.le_succ _,fun x=>Nat.le_succ _⟩
theorem A0v:∀ {us:List UV} {L:List En},OkE L→(∀u∈us,u.Ok)→OkE (applyE us L)∧(applyE us L).length≤L.length+us.length∧∀x,(lookE (applyE us L) x).length≤(lookE L x).length+us.length
 | [],L,ok,_=>⟨ok,Nat.le_refl _,fun x=>Nat.le_refl _⟩
 | u::us,L,ok,h=>by
  obtain⟨h1,h2,h3⟩:=B9u ok (h u (by simp));obtain⟨h4,h5,h6⟩:=A0v (us:=us) h1 fun x hx=>h x (List.mem_cons_of_mem _ hx);have e:applyE (u::us) L=applyE us (Jv L u):=rfl;rw[e];refine ⟨h4,?_,fun x=>?_⟩
  ·simp only[List.length_cons];omega
  ·have a:=h6 x;have b:=h3 x;simp only[List.length_cons];omega
theorem A6c (e:Int) (ap:Option Addr) (d:Int) (b:Option Nat):B0l [.int .i64 e,.pointer ap,.int .i64 d,.map b]:=by
 intro x hx y;simp only[List.mem_cons,List.not_mem_nil,or_false]at hx;rcases hx with rfl | rfl | rfl | rfl<;>(intro h;unfold v8 at h;first | cases h | (injection h with h;cases h))
theorem US.allOk {w:World} {B:Nat} {v:Value} {us:List UV} (h:US w B v us):∀u∈us,u.Ok:=by
 rcases h with ⟨rfl,_⟩ | ⟨g,tl,c,_,h2,_⟩
 ·intro u hu;cases hu
 ·exact h2.1
structure DaI (w wr : World) (gD gX : Nat) (ov gv : Value) (bs : List (List UV)) (i : Nat) (dv ev : Value) (L : List En) (N : Nat) : Prop where
 eq:L=allE (bs.take i)
 kd:∃ap b,dv=.agg #[.int .i64 (i:Int),.pointer ap,.int .i64 0,.map b]∧Bk wr gD 34 [.int .i64 (i:Int),.pointer ap,.int .i64 0,.map b]
 kx:∃A c,ev=.slice A L.length c∧Bk wr gX 37 [.int .i64 (i:Int),.slice A L.length c]
 dir:DirIs wr dv i L N
 es:Es wr wr.heap.size ev L
 bat:BatchIs wr ov gv bs
 hN:N≤12*i
 len:L.length≤12*i
 lks:∀x,(lookE L x).length≤12*i
 below:Below w.heap.size w wr
theorem DaI.up {w wr w':World} {gD gX:Nat} {ov gv:Value} {bs:List (List UV)} {i:Nat} {dv ev:Value} {L:List En} {N:Nat} (h:DaI w wr gD gX ov gv bs i dv ev L N) (hb:Below wr.heap.size wr w'):DaI w w' gD gX ov gv bs i dv ev L N:=by
 obtain⟨ap,b,h1,h2⟩:=h.kd;obtain⟨A,c,h3,h4⟩:=h.kx;exact ⟨h.eq,⟨ap,b,h1,h2.bl hb⟩,⟨A,c,h3,h4.bl hb⟩,h.dir.up hb,h.es.up hb,h.bat.up hb,h.hN,h.len,h.lks,C2 h.below hb h.below.size⟩
end
section
attribute [local go_sem] Oper.semAt_some
structure KV where
 id:List UInt8
 ks:List (List UInt8)
 v:Value
 ok:id.length=32
def D6i (x:KV):Array Value:=#[A8 x.id,x.v]
def KV.en (x:KV):En:=(x.id,x.ks)
def KT (W W':World):Prop:=∀(k T:Nat) (cs:List Value),T=108∨T=34→Bk W k T cs→Bk W' k T cs
theorem B4g (a b c d:Value) (w:World) (n:Nat) :
 CallsIn Fence.wide n Tryz.prog 25 #[.agg #[a,b,c,d]] w fun e w'=>e=.returned (.func (.func 48) #[] #[.pointer (some ⟨w.heap.size,0,none⟩)])∧w'=w.alloc (.cells #[a,b,c,d] 34):=by
 refine callsIn_of_wp Tryz.func25 rfl trivial ?_ rfl;simp only[Tryz.ntmps25,List.size_toArray,List.length_cons,List.length_nil,Nat.reduceAdd,Nat.reduceSub,Array.replicate_succ,Array.replicate_zero,List.push_toArray,List.append_toArray,Vb];gi_wp2
 go_ret;exact ⟨rfl,rfl⟩
def KpD (n0 l:Nat) (W W':World):Prop:=Below n0 W W'∧KeepsFrom (l+1) W W'∧KT W W'
theorem C8w {w:World} {x:Int} {ap:Option Addr} {mb:Option Nat} {e N:Nat} {L:List En} {t:Tr} (h:DirIs w (.agg #[.int .i64 x,.pointer ap,.int .i64 0,.map mb]) e L N) (ht:IsTree t L):At w w.heap.size t (.pointer ap):=by
 obtain⟨aA,mv,m,s,h1,h2,h3,h4,h5,h6,h7⟩:=h;have h8:=congrArg (fun v=>match v with | .agg a=>a.toList | _=>[]) h1;simp at h8;obtain rfl:=ht.uniq ⟨h5,h6⟩;rw[h8.2.1];exact h7
theorem E4k {W W':World} (hb:Below W.heap.size W W'):W.grownBy W' none:=⟨hb.os,hb.tape,hb.output,hb.size,fun k hk _=>hb.block k (by omega)⟩
theorem B0w {β:Type} {B:Nat} {I:β→World→Prop} (h:OwnFrom B I) {s:β} {W W':World} (hs:I s W) (hb:Below W.heap.size W W'):I s W':=h s W W' none hs (E4k hb) (fun r e=>by cases e)
theorem Ez {W W':World} (hb:Below W.heap.size W W'):KeepsOthers W W':=⟨hb.size,fun k o hk _=>by rw[hb.block k (Array.getElem?_eq_some_iff.1 hk).1];exact hk⟩
theorem Fp.ext {z:Nat} {W W':World} (hb:Below W.heap.size W W'):Fp z W W':=fun _ _ _ _ h=>h.bl hb
def DlI (w0:World) (L:List En) (J:List KV→World→Prop) (l by_ Bd:Nat) (dc:List Value) (pre:List PrS) (W:World):Prop:=
 ∃ps:List KV,ps.map KV.id=pre.map (·.1.1)∧(∀q∈ps,q.ks=lookE L q.id)∧J ps W∧Bk W by_ 108 [.func (.yield l) #[] #[]]∧Bk W Bd 34 dc∧Below w0.heap.size w0 W
section
variable {w0 : World} {L : List En} {J : List KV → World → Prop} {l by_ Bd : Nat} {dc : List Value}
theorem A9b {B C:Nat} (hJ:OwnFrom C J) (hC:C≤B) (h0:w0.heap.size≤B):OwnFrom B (DlI w0 L J l by_ Bd dc):=by
 intro s X Y aA hs hg hr;obtain⟨ps,h1,h2,h3,h4,h5,h6⟩:=hs;have aB:∀r,aA=some r→∃o:Obj,X.heap[r]?=some o∧o.isCells=false:=fun r e=>(hr r e).2;exact ⟨ps,h1,h2,hJ ps X Y aA h3 hg (fun r e=>⟨Nat.le_trans hC (hr r e).1,(hr r e).2⟩),Db h4 hg aB,Db h5 hg aB,h6.grown hg h6.size (fun k e=>Nat.le_trans h0 (hr k e).1)⟩
theorem D4t {C:Nat} (hJ:OwnFrom C J) {pre:List PrS} {W W':World} (h:DlI w0 L J l by_ Bd dc pre W) (hb:Below W.heap.size W W'):DlI w0 L J l by_ Bd dc pre W':=by
 obtain⟨ps,h1,h2,h3,h4,h5,h6⟩:=h;exact ⟨ps,h1,h2,B0w hJ h3 hb,h4.bl hb,h5.bl hb,C2 h6 hb h6.size⟩
theorem B0n {ps:List KV} {pre:List PrS} (ok:OkE L) {t:Tr} (ht:IsTree t L) (h1:ps.map KV.id=pre.map (·.1.1)) (h2:∀q∈ps,q.ks=lookE L q.id) (hp:pre <+: t.prs):ps.map KV.en <+: L:=by
 have e1:(t.prs.map (·.1))=pairsE L:=by rw[Tl ht.ok,ht.prs]
 have e2:t.prs.map (fun x=>x.1.1)=L.map (·.1):=by have:=congrArg (List.map Prod.fst) e1;unfold pairsE at this;rw[List.map_map,List.map_map]at this;exact this
 have e3:ps.map KV.en=(ps.map KV.id).map fun x=>(x,lookE L x):=by rw[List.map_map];exact List.map_congr_left fun q hq=>by simp[KV.en,h2 q hq]
 have e4:(L.map (·.1)).map (fun x=>(x,lookE L x))=L:=by rw[List.map_map];refine (List.map_congr_left fun q hq=>?_).trans (List.map_id L);show (q.1,lookE L q.1)=q;rw[Gd ok.rise q hq]
 obtain⟨r,hr⟩:=hp;rw[e3,h1];refine ⟨(r.map fun x=>x.1.1).map (fun x=>(x,lookE L x)),?_⟩;rw[←List.map_append,←List.map_append,hr,e2,e4]
end
attribute [local go_sem ↓ high] Ju Yw
theorem A5v (w0:World) (e N:Nat) (ap:Option Addr) (mb:Option Nat) (L:List En) (t:Tr) (hD:DirIs w0 (.agg #[.int .i64 (e:Int),.pointer ap,.int .i64 0,.map mb]) e L N) (ht:IsTree t L) (hks:∀x,(lookE L x).length≤1000000)
 (n:Nat) (w:World) (Bd:Nat) (hw:Below w0.heap.size w0 w) (hBd:Bk w Bd 34 [.int .i64 (e:Int),.pointer ap,.int .i64 0,.map mb]) :
 E3l Fence.wide n Tryz.prog 48 #[.pointer (some ⟨Bd,0,none⟩)] D6i (KpD w0.heap.size) (fun pre x W=>Ee W w0.heap.size x.v x.ks∧(pre++[x]).map KV.en <+: L) (fun xs=>xs.map KV.en=L) (fun xs=>xs.map KV.en <+: L) L.length w:=by
 intro l J Jx W bN hW hJ aV hY h0;have D0:=hBd.bl hW;have B0:=Q5 hw hW;clear hBd hw hW;refine callsIn_of_wp_marks Tryz.func48 rfl trivial ?_ rfl;simp only[Tryz.ntmps48,List.size_toArray,List.length_cons,List.length_nil,Nat.reduceAdd,Nat.reduceSub,Array.replicate_succ,Array.replicate_zero,List.push_toArray,List.append_toArray,Vb];refine wpIn_wide.2 ?_;obtain⟨W1,aD⟩:=E9 (W.alloc (Obj.cells #[.func (.yield l) #[] #[]] 108));have b1:=BA' aD;have Y1:=KN' aD;have D1:=D0.bl b1;have r1:C8 W1 ⟨Bd,1,none⟩ 2=some [.pointer ap,.int .i64 0]:=D1.row (o:=1) (n:=2) (by simp);rw[aD]at r1;go_wp2_with fail;rw[←aD];clear aD r1;refine (callsIn_wide.1 (C8t (.pointer ap) (.int .i64 0) W1 5)).mono ?_;rintro x W2 ⟨rfl,aL⟩;have T2:Bk W2 W1.heap.size 31 [.pointer ap,.int .i64 0]:=by rw[aL];exact Bk.new W1 _ _
 have b2:=BA' aL;clear aL;have aE:=Q5 b1 b2;have Y2:=Y1.bl b2;have D2:=D1.bl b2;have B2:=Q5 B0 aE;have J2:∃z,z≤W2.heap.size∧DlI w0 L (J z) l W.heap.size Bd [.int .i64 (e:Int),.pointer ap,.int .i64 0,.map mb] [] W2:=by obtain⟨z,hz,h⟩:=h0;exact ⟨z,Nat.le_trans hz aE.size,[],rfl,fun q h=>(by cases h),B0w (hJ z) h aE,Y2,D2,B2⟩
 have aM:=aE.size;clear Y1 D1 b1 b2 aE B0 D0 h0;go_wp2_with fail;have hn:=B2.size;have aN:=(C8w hD ht).below B2;have aO:=Tl ht.ok;have aW:t.prs.length=L.length:=by rw[←Cg,←ht.prs,←aO,List.length_map]
 refine (wpIn_wide (n:=5)).1 ?_;refine B9r (F:=Fence.wide) (n:=5) rfl (by omega) (gf:=71) (lb:=#[.pointer (some ⟨W1.heap.size,0,none⟩)]) rfl trivial (enters_of Tryz.func71 (by kernel_rfl) rfl)
  (E9b (5-1) W1.heap.size w0.heap.size (.pointer ap) (.int .i64 0) t 0 P0 ht.ok W2 T2 hn aN) (fun h k=>belowK_t h k) (fun X o o' h1 h2 h3=>belowK_b hn X _ o o' (by omega) h1 h2 h3) (Below.refl _ _) (fun _=>rfl)
  (fun z=>DlI w0 L (J z) l W.heap.size Bd [.int .i64 (e:Int),.pointer ap,.int .i64 0,.map mb]) (fun c pre X=>c=.ret∧DlI w0 L Jx l W.heap.size Bd [.int .i64 (e:Int),.pointer ap,.int .i64 0,.map mb] pre X) (fun z=>A9b (hJ z) aM hn) (fun _ s X Y row hs hg hr=>⟨hs.1,A9b aV aM hn s X Y row hs.2 hg hr⟩)
  J2
  (fun z pre Z x a' X=>pre++[x] <+: t.prs∧DlI w0 L (J z) l W.heap.size Bd [.int .i64 (e:Int),.pointer ap,.int .i64 0,.map mb] pre X∧∃gk:Nat,Z.heap.size≤gk∧Bk X gk 23 (c8 x.1.1)∧a'={ tmps:=(.func (.yield l) #[] #[] :: .pointer (some ⟨Bd,0,none⟩) :: .pointer (some ⟨W.heap.size,0,none⟩) :: .pointer (some ⟨gk,0,none⟩) :: .pointer (some ⟨Bd,1,none⟩) :: .agg #[.pointer ap,.int .i64 0] :: .func (.func 71) #[] #[.pointer (some ⟨W1.heap.size,0,none⟩)]::A8 x.1.1::A8 x.1.2::undef::undef::undef::undef::undef::undef::undef::[]).toArray,defers:=[] })
  (fun z pre Z x a'=>by
   intro s X Y row hs hg hr;obtain⟨h0,h1,gk,h2,h3,h5⟩:=hs;exact ⟨h0,A9b (hJ z) aM hn pre X Y row h1 hg hr,gk,h2,Db h3 hg (fun r e=>(hr r e).2),h5⟩) ?aA ?aF ?aG ?aH
 case aA=>
  rintro lp z pre ⟨⟨k,x⟩,hx⟩ V K hI hz aP hK;have hk:=hx.1;have aQ:=hx.2;simp only at hk aQ;simp only[C9g];have bC:P7 (V.alloc (Obj.cells (c8 (z8 32)).toArray 23)) ⟨V.heap.size,0,none⟩ 32=true:=(Bk.new V _ _).can (by simp);gi_wp2
  obtain⟨V1,aR⟩:=E9 (C4 (V.alloc (Obj.cells (c8 (z8 32)).toArray 23)) ⟨V.heap.size,0,none⟩ (c8 k));rw[←aR];have aJ:Below V.heap.size V V1:=by rw[aR];exact C0 (Bh _ _) (Nat.le_refl _) _
  have K1:Bk V1 V.heap.size 23 (c8 k):=by rw[aR];exact Bk.fresh V _ (by simp[hk])
  have bD:w0.heap.size≤V.heap.size:=by obtain⟨_,_,_,_,_,_,h⟩:=hI;exact h.size
  exact hK _ _ ((Ez aJ).from _) (aJ.mono bD) (Fp.ext aJ) ⟨aP,D4t (hJ z) hI aJ,V.heap.size,Nat.le_refl _,K1,rfl⟩
 case aF=>
  rintro lp z pre ⟨⟨k,x⟩,hx⟩ a' Z V hl bO _ bE ⟨aP,⟨ps,h1,h2,h3,Y3,D3,B3⟩,gk,bF,Kk,rfl⟩ bG;have hk:=hx.1;have aQ:=hx.2;simp only at hk aQ;have aX:z≤gk:=Nat.le_trans bE bF;have bH:=hD.up B3;have bI:ps.length=pre.length:=by have:=congrArg List.length h1;simpa using this
  have S0:=Kg V;have Y4:=Y3.bl S0;have D4:=D3.bl S0;have K4:=Kk.bl S0;have bJ:=bH.up S0;have J4:=B0w (hJ z) h3 S0;have B4:=Q5 B3 S0;gi_wp2
  refine Xs (fun X=>Bk X W.heap.size 108 [.func (.yield l) #[] #[]]∧Bk X Bd 34 [.int .i64 (e:Int),.pointer ap,.int .i64 0,.map mb]∧Bk X gk 23 (c8 k)) (by kernel_rfl) ?_;refine Kq (Co lp) (by kernel_rfl) (A:=?bP) [0,1,2,3] (by kernel_rfl) (by kernel_rfl) rfl (by kernel_rfl) (by kernel_rfl) ⟨Y4,D4,K4⟩ (h:=fun X hX=>?bK) (hr:=?bQ);case bK=>
   have f1:X.cell? ⟨W.heap.size,0,none⟩=some (.func (.yield l) #[] #[]):=hX.1.at_ rfl;have f2:C8 X ⟨Bd,0,none⟩ 4=some [.int .i64 (e:Int),.pointer ap,.int .i64 0,.map mb]:=hX.2.1.rows;have f3:=hX.2.2.row8 hk;exact Gq
  refine Gw (Co lp) 4 (by kernel_rfl) (by rfl) (by kernel_rfl) (fun Q' hQ'=>?_);dsimp only[C7];have aB:=Lib.hid hQ';clear hQ';gi_wp2
  refine ⟨trivial,?_⟩;refine (CallsIn.inRound lp (callsIn_wide.2 (Xj bJ k hk (hks k)))).mono ?_;rintro x1 V5 ⟨u,rfl,ho,b5⟩;have Y5:=Y4.bl b5;have D5:=D4.bl b5;have K5:=K4.bl b5;have J5:=B0w (hJ z) J4 b5;have B5:=Q5 B4 b5;have aK:=Q5 S0 b5;have bL:=Nat.le_trans aX (Nat.le_of_lt K5.lt);have q1:(ps++[(⟨k,lookE L k,u,hk⟩:KV)]).map KV.id=(pre++[(⟨(k,x),hx⟩:PrS)]).map (·.1.1):=by rw[List.map_append,List.map_append,h1];rfl
  have q2:∀q∈ps++[(⟨k,lookE L k,u,hk⟩:KV)],q.ks=lookE L q.id:=by
   intro q hq;rcases List.mem_append.1 hq with hq | hq
   ·exact h2 q hq
   ·simp at hq;subst hq;rfl
  obtain⟨fn,tmps,aC,aS,hy,hR⟩:=Uq (m:=n-1) rfl 2 (hY z ps ⟨k,lookE L k,u,hk⟩ V5 J5 bL (by rw[bI,←aW];exact bG) ⟨ho.less B4.size,B0n hD.okE ht q1 q2 aP⟩);dsimp only[D6i]at hy;gi_wp2
  refine aB.out _ _ ⟨Y5,D5,K5⟩ ?_;clear aB;refine Gw (Co lp) 5 (by kernel_rfl) (by rfl) (by kernel_rfl) (fun Q' hQ'=>?_);dsimp only[C7];have aB:=Lib.hid hQ';clear hQ';gi_wp2
  refine (show RoundIn (Fence.wide.inRound lp) 2 _ l fn tmps aC aS V5 _ from hR).mono ?_;rintro e6 V6 ⟨h6,⟨aY,aZ,bA⟩,bB⟩;have Y6:=bA _ _ _ (.inl rfl) Y5;have D6:=bA _ _ _ (.inr rfl) D5;have K6:=bB _ _ _ aX K5;have p1:KeepsFrom W2.heap.size V V6:=⟨Nat.le_trans aK.size aZ.size,fun r o hr ho hc=>aZ.same r o (by omega) ((Ez aK).same r o ho hc) hc⟩;have p2:=(aK.mono B3.size).trans aY;have p3:=(Fp.ext aK).trans bB;have p4:=B5.trans aY;clear hY hR hy J5 J4 h3 ho;rcases h6 with ⟨rfl,z',hz',hJ6⟩ | ⟨rfl,hJ6⟩
  ·gi_wp2
   refine aB.out _ _ ⟨Y6,D6,K6⟩ ?_;clear aB;refine Gw (Co lp) 6 (by kernel_rfl) (by rfl) (by kernel_rfl) (fun Q' hQ'=>?_);dsimp only[C7];gi_wp2
   refine hQ' _ _ ⟨Y6,D6,K6⟩ ?_;refine Vo (by kernel_rfl) ?_;gi_wp2
   exact ⟨p1,p2,p3,z',hz',_,q1,q2,hJ6,Y6,D6,p4⟩
  ·gi_wp2
   refine aB.out _ _ ⟨Y6,D6,K6⟩ ?_;clear aB;refine Gw (Co lp) 6 (by kernel_rfl) (by rfl) (by kernel_rfl) (fun Q' hQ'=>?_);dsimp only[C7];gi_wp2
   refine hQ' _ _ ⟨Y6,D6,K6⟩ ?_;refine Vo (by kernel_rfl) ?_;gi_wp2
   exact ⟨p1,p2,p3,rfl,_,q1,q2,hJ6,Y6,D6,p4⟩
 case aG=>
  rintro D z ys V bM rfl ⟨ps,h1,h2,h3,Y3,D3,B3⟩ aI;have aT:ps.map KV.en=L:=(B0n hD.okE ht h1 h2 (List.prefix_refl _)).eq_of_length (by
   have:=congrArg List.length h1;simp only[List.length_map]at this ⊢;rw[this,aW])
  dsimp only;go_wp2_with fail;refine ⟨by simp,.inl ⟨_,_,rfl,run_takeDeferred aI,?_⟩⟩;exact ⟨.tuple #[],by simp[results,Tryz.f48],⟨_,rfl⟩,.inl ⟨ps,z,aT,(hJ z).putObj _ h3 (by omega) aI rfl⟩⟩
 case aH=>
  rintro D cc pre V bM aU ⟨rfl,ps,h1,h2,h3,Y3,D3,B3⟩ aI;have aT:=B0n hD.okE ht h1 h2 aU;dsimp only;gi_wp2
  refine ⟨by simp,.inl ⟨_,_,rfl,run_takeDeferred aI,?_⟩⟩;exact ⟨.tuple #[],by simp[results,Tryz.f48],⟨_,rfl⟩,.inr ⟨ps,aT,aV.putObj _ h3 (by omega) aI rfl⟩⟩
end
end Go.Proofs.YtlegpkdighoflaaGreat
