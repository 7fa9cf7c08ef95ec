/- A part of the proof of DirAnswers. -/
import Derived.Test.YtlegpkdighoflaaGreatPbn
set_option linter.unusedVariables false
set_option linter.unusedSimpArgs false
set_option maxRecDepth 100000
set_option maxHeartbeats 40000000
namespace Go.Proofs.YtlegpkdighoflaaGreat
open Go Go.RowKit Sh
section
section
variable {w wr : World} {M b m : Nat} {ov gv uv bv : Value} {os gs : List Value} {bs : List (List UV)} {us : List UV}
theorem Zl {base sz k:Nat} {T:TypeId} {v:Value} {xs:List Value} (ho:wr.ownsRow base T sz v k xs) (hr:∀r,some b=some r→∃o:Obj,wr.heap[r]?=some o∧o.isCells=false):v.ownBlock=none∨v.ownBlock≠some b:=by
 obtain⟨o,h1,h2⟩:=hr b rfl;rcases ho.2 with ⟨hv,_⟩ | ⟨g,cap,cur,hv,_,hh,_⟩
 ·left;rw[hv];rfl
 ·right
  rw[hv];intro e;injection e with e;subst e;rw[hh]at h1;injection h1 with h1;subst h1;cases h2
theorem US.own {w':World} {B:Nat} {v:Value} {us:List UV} (h:US wr B v us) (hg:wr.grownBy w' (some b)) (hr:∀r,some b=some r→∃o:Obj,wr.heap[r]?=some o∧o.isCells=false):US w' B v us:=by
 rcases h with h | ⟨g,tl,c,h1,h2,h3⟩
 ·exact .inl h
 ·exact .inr ⟨g,tl,c,h1,⟨h2.1,Iw h2.2 hg hr⟩,h3⟩
theorem BS.own {w':World} {B:Nat} {v:Value} {us:List Bool} (h:BS wr B v us) (hg:wr.grownBy w' (some b)) (hr:∀r,some b=some r→∃o:Obj,wr.heap[r]?=some o∧o.isCells=false):BS w' B v us:=by
 rcases h with h | ⟨g,tl,c,h1,h2,h3⟩
 ·exact .inl h
 ·exact .inr ⟨g,tl,c,h1,Iw h2 hg hr,h3⟩
theorem BaI.map (h:BaI w wr M b m ov gv uv bv os gs bs us) (hb:w.heap.size≤b) {w6:World} {D:DataW Value} (ho:w6.ownsMap Tryz.prog 3 RI b (m+1) D) (hg:wr.grownBy w6 (some b)):BaI w w6 M b (m+1) ov gv uv bv os gs bs us:=
 ⟨World.ownsRow.kept h.out hg (Zl h.out h.mc.row),World.ownsRow.kept h.good hg (Zl h.good h.mc.row),h.lo.mono fun _ _ x=>x.own hg h.mc.row,h.lg.mono fun _ _ x=>x.own hg h.mc.row,
  ⟨h.uo.1,World.ownsRow.kept h.uo.2 hg (Zl h.uo.2 h.mc.row)⟩,World.ownsRow.kept h.bo hg (Zl h.bo h.mc.row),⟨D,ho⟩,h.hM,Nat.le_trans h.hW hg.size,h.below.grown hg h.below.size (fun k e=>by cases e;exact hb)⟩
theorem BaI.app (h:BaI w wr M b m ov gv uv bv os gs bs us) {u:UV} {g:Bool} (hu:u.Ok) (hgb:signedB u=g) {w7 w8:World} {A7 A8:Option Addr} {c7 c8:Nat}
 (h7:w7.ownsRow M 63 129 (.slice A7 (us.length+1) c7) (us.length+1) (us.flatMap Cl++Cl u)) (b7:Below M wr w7) (g7:wr.grownBy w7 uv.ownBlock)
 (h8:w8.ownsRow M 4 1 (.slice A8 (us.length+1) c8) (us.length+1) ((us.map signedB).map Value.bool++[.bool g])) (b8:Below M w7 w8) (g8:w7.grownBy w8 bv.ownBlock) :
 BaI w w8 M b m ov gv (.slice A7 (us.length+1) c7) (.slice A8 (us.length+1) c8) os gs bs (us++[u]):=by
 have aC:=World.ownsRow.kept h.bo g7 (Z1 h.bo h.uo.2 (by decide));have aB:=World.ownsRow.kept h.out g7 (Z1 h.out h.uo.2 (by decide));have aA:=World.ownsRow.kept h.good g7 (Z1 h.good h.uo.2 (by decide));refine ⟨World.ownsRow.kept aB g8 (Z1 aB aC (by decide)),World.ownsRow.kept aA g8 (Z1 aA aC (by decide)),h.lo.mono fun _ _ x=>(x.below b7).below b8,h.lg.mono fun _ _ x=>(x.below b7).below b8,⟨?_,?_⟩,?_,(h.mc.own h.uo.2 g7).own aC g8,h.hM,Nat.le_trans h.hW (Nat.le_trans b7.size b8.size),h.below.trans ((b7.trans b8).mono h.hM)⟩
 ·intro x hx;rcases List.mem_append.1 hx with hx | hx
  ·exact h.uo.1 x hx
  ·simp at hx;subst hx;exact hu
 ·have:=World.ownsRow.kept h7 g8 (Z1 h7 aC (by decide));simpa using this
 ·unfold OwnB;subst hgb;simpa using h8
theorem BaI.cut (h:BaI w wr M b m ov gv uv bv os gs bs us) {w9 w10:World} {A9 A10:Option Addr} {c9 c10:Nat}
 (h9:w9.ownsRow w.heap.size 39 1 (.slice A9 (os.length+1) c9) (os.length+1) (os++[uv])) (b9:Below w.heap.size wr w9) (g9:wr.grownBy w9 ov.ownBlock)
 (h10:w10.ownsRow w.heap.size 41 1 (.slice A10 (gs.length+1) c10) (gs.length+1) (gs++[bv])) (b10:Below w.heap.size w9 w10) (g10:w9.grownBy w10 gv.ownBlock) :
 BaI w w10 w10.heap.size b m (.slice A9 (os.length+1) c9) (.slice A10 (gs.length+1) c10) (.slice none 0 0) (.slice none 0 0) (os++[uv]) (gs++[bv]) (bs++[us]) []:=by
 have aA:=World.ownsRow.kept h.good g9 (Z1 h.good h.out (by decide));have hs:=Nat.le_trans h.hW (Nat.le_trans b9.size b10.size);have aB:=Nat.le_trans b9.size b10.size;have fu:∀ {B:Nat} {v:Value} {us:List UV},US wr B v us→US w10 B v us:=fun x=>(x.grown h.out (by decide) g9).grown aA (by decide) g10;have fb:∀ {B:Nat} {v:Value} {us:List Bool},BS wr B v us→BS w10 B v us:=fun x=>(x.grown h.out (by decide) g9).grown aA (by decide) g10;refine ⟨?_,?_,Lot.snoc ((fu h.uo.us).more aB) (h.lo.mono fun _ _ x=>(fu x).more hs),?_,⟨fun u hu=>(by cases hu),World.ownsRow_nil _ _ _ _⟩,World.ownsRow_nil _ _ _ _,(h.mc.own h.out g9).own aA g10,Nat.le_trans h.hM hs,Nat.le_refl _,(h.below.trans b9).trans b10⟩
 ·have:=World.ownsRow.kept h9 g10 (Z1 h9 aA (by decide));simpa using this
 ·simpa using h10
 ·rw[List.map_append,List.map_singleton];exact Lot.snoc ((fb h.bo.bs).more aB) (h.lg.mono fun _ _ x=>(fb x).more hs)
end
def BatchIs (w:World) (ov gv:Value) (bs:List (List UV)):Prop:=∃os gs:List Value,w.ownsRow 0 39 1 ov os.length os∧w.ownsRow 0 41 1 gv gs.length gs∧Lot (US w w.heap.size) os bs∧Lot (BS w w.heap.size) gs (bs.map (·.map signedB))
theorem B9n:RA' 80 #[.int .i64 0,.int .i64 0,.int .i64 0,.bool false,.bool false]:=fun w ρ dst ty pos after guard=>U6 w ρ dst ty pos after guard 80 (.agg (AV.cells ⟨0,0,0,false,false⟩).toArray) C5d
def C2e (w:World) (raw:Result Next) (x y:Value):Result Next:=Cu 5 w raw x y
theorem B4o (w:World) (ρ:Operand→Value) (dst:Option Tmp) (ty:TypeId) (pos:String) (after:Array Edge) (guard:Option (Nat×Bool)) (x y:Operand) :
 (execOp ρ { dst,op:=.store 80 x y,type:=ty,pos,after,guard }).run Tryz.prog w=C2e w (Q0 Tryz.prog ρ { dst,op:=.store 80 x y,type:=ty,pos,after,guard } w) (ρ x) (ρ y):=B7w w ρ dst ty pos after guard x y
theorem BaI.made {w wr:World} {M b m:Nat} {ov gv uv bv:Value} {os gs:List Value} {bs:List (List UV)} {us:List UV} (h:BaI w wr M b m ov gv uv bv os gs bs us):BatchIs wr ov gv bs:=
 ⟨os,gs,Vq h.out (Nat.zero_le _),Vq h.good (Nat.zero_le _),h.lo.mono fun _ _ x=>x.more h.hW,h.lg.mono fun _ _ x=>x.more h.hW⟩
attribute [local go_sem ↓ high] C3j B4o B9n
theorem B1k (v:Value) (l:List AV) (w:World) (hv:As w w.heap.size v l):Calls Tryz.prog 8 #[v] w fun x w'=>∃ov gv bs,x=.returned (.tuple #[ov,gv])∧BatchIs w' ov gv bs∧bs.length≤13∧(∀b∈bs,b.length≤12)∧Below w.heap.size w w':=by
 have HA:=Lib.hid hv;obtain⟨A,c,rfl,cW,dG,_⟩:=hv;obtain⟨n,hn⟩:=F9 (l.length);have HN:=Lib.hid hn;rw[←hn]at HA cW ⊢;clear hn;obtain⟨W0,bT⟩:=F9 (w.alloc (.map #[] 0));have B0:=BA' bT;have I0:BaI w W0 W0.heap.size w.heap.size 0 (.slice none 0 0) (.slice none 0 0) (.slice none 0 0) (.slice none 0 0) [] [] [] []:=
  ⟨World.ownsRow_nil _ _ _ _,World.ownsRow_nil _ _ _ _,trivial,trivial,⟨fun u h=>(by cases h),World.ownsRow_nil _ _ _ _⟩,World.ownsRow_nil _ _ _ _,by rw[bT];exact MapC.made w,by rw[bT];simp,Nat.le_refl _,B0⟩
 have cX:=@run_makeMap Tryz.prog;have bS:(Uk (Py 129)).cells.size=129:=by simp[Uk,Cl,Py,Value.cells]
 have aJ:∀ {b:Bool},∀u∈[Value.bool b],u.oneCell'=true:=fun {b} u hu=>by simp at hu;subst hu;rfl
 have aD:∀ {A:Option Addr} {n c:Nat},∀u∈[Value.slice A n c],u.oneCell'=true:=fun {A n c} u hu=>by simp at hu;subst hu;rfl
 go_enter Tryz.func8,Tryz.ntmps8;go_wp2_with fail;rw[←bT];clear bT B0 cX;go_loopw [4,5,6,7,18] (fun ov gv uv bv x wr=>∃(i M m:Nat) (os gs:List Value) (bs:List (List UV)) (us:List UV),i≤n∧i≤12∧x=.int .i64 (i:Int)∧BaI w wr M w.heap.size m ov gv uv bv os gs bs us∧m≤i∧us.length≤i∧bs.length≤i∧∀b∈bs,b.length≤12) (fun _ _ _ _ x _=>n-(intOf x).toNat)
 case atStart=>exact ⟨0,_,0,[],[],[],[],by omega,by omega,rfl,I0,Nat.le_refl _,Nat.le_refl _,Nat.le_refl _,fun b h=>(by cases h)⟩
 case round=>
  clear I0;obtain⟨i,M,m,os,gs,bs,us,hi,cY,rfl,I,dH,dI,dJ,bL⟩:=hrel;by_cases hlt:i<n
  ·have hd:decide ((i:Int)<(n:Int))=true:=decide_eq_true (by omega);have cZ:=decide_eq_true hlt;obtain⟨a,ha⟩:∃a,l[i]?=some a:=⟨_,List.getElem?_eq_getElem (by rw[←HN.out];exact hlt)⟩;obtain⟨g,o,rfl,hg,bU⟩:=HA.out.at_ ha;have dK:=(Q4 (a:=⟨g,o+i*5,none⟩) I.below hg).trans bU;have k0:Bk (wr.alloc (Obj.cells #[.int .i64 0,.int .i64 0,.int .i64 0,.bool false,.bool false] 80)) wr.heap.size 80 [.int .i64 0,.int .i64 0,.int .i64 0,.bool false,.bool false]:=Bk.new wr _ _;have bA:=Gy 5 k0 (by simp);obtain⟨W,hW⟩:=F9 (D8 (wr.alloc (Obj.cells #[.int .i64 0,.int .i64 0,.int .i64 0,.bool false,.bool false] 80)) ⟨wr.heap.size,0,none⟩ [.int .i64 a.who,.int .i64 a.ver,.int .i64 a.key,.bool a.wrong,.bool a.cut]);have kA:Bk W wr.heap.size 80 [.int .i64 a.who,.int .i64 a.ver,.int .i64 a.key,.bool a.wrong,.bool a.cut]:=by rw[hW];exact k0.puts (by simp)
   have IW:=I.up (w':=W) (by rw[hW];exact C5 (Aw _ _) (Nat.le_refl _) _);clear ha bU k0 I;have a0:=kA.at_ (i:=0) rfl;have a1:=kA.at_ (i:=1) rfl;have a2:=kA.at_ (i:=2) rfl;have dB:∀raw,C2e (wr.alloc (Obj.cells #[.int .i64 0,.int .i64 0,.int .i64 0,.bool false,.bool false] 80)) raw (.pointer (some ⟨wr.heap.size,0,none⟩)) (.agg a.cells.toArray)=.ok .skip W:=fun raw=>by unfold C2e;rw[hW];exact A9a _ _ _ _ _ _ _ _ bA
   clear hW bA;by_cases h12:12≤i
   ·have cJ:decide ((12:Int)≤(i:Int))=true:=decide_eq_true (by omega);have cK:=decide_eq_true h12;have II:=IW;have bO:=II.lo.len;have aU:gs.length=bs.length:=by have:=II.lg.len;simpa using this
    obtain⟨Au,cu,rfl,_,_⟩:=Cj II.uo.2;obtain⟨Ab,cb,bV,_,_⟩:=Cj II.bo;rw[List.length_map]at bV;subst bV;go_wp2_with (first | (at_builtin;refine Cv 25 39 (.slice none 0 0) 1 24 Tryz.underlying25 A2p rfl (by decide) (by decide) rfl _ _ rfl rfl II.out [.slice Au us.length cu] rfl aD _ rfl rfl rfl (by omega) II.below.size ?_;intro A9 c9 w9 cE cF aF aV aW bH;have aG:=World.ownsRow.kept II.good aW (Z1 II.good II.out (by decide));have aK:=Nat.le_trans II.below.size aV.size) | (at_builtin;refine Cv 26 41 (.slice none 0 0) 1 24 Tryz.underlying26 A0m rfl (by decide) (by decide) rfl _ _ rfl rfl aG [.slice Ab us.length cb] rfl aD _ rfl rfl rfl (by omega) aK ?_;intro cG cH bP bI bJ aB aL aM aX));have aS:=II.cut aF aV aW aB aL aM;rw[bO,aU]at aS;exact bodyPost_ret (N9 rfl (M7.tmp rfl) (M7.tmp rfl)) rfl ⟨_,_,bs++[us],rfl,aS.made,by simp;omega,fun b hb=>by
     rcases List.mem_append.1 hb with hb | hb
     ·exact bL b hb
     ·simp at hb;subst hb;omega,aS.below⟩
   ·have cJ:decide ((12:Int)≤(i:Int))=false:=decide_eq_false (by omega);have cK:decide (12≤i)=false:=decide_eq_false (by omega);have dC:=A5d a.who;have dD:=A1k a.key;have dL:=A1k (i:Int);have dM:(J4 (Im a.who)).tmod 4=J4 (Im a.who % 4):=by unfold J4;rw[UInt64.toNat_mod];rfl
    have dN:=C5a (Im a.who);have dO:wrap64 (J4 (Im a.who % 4))=J4 (Im a.who % 4):=by have h:=UInt64.toNat_mod (Im a.who) 4;have h4:(4:UInt64).toNat=4:=rfl;unfold wrap64 J4;rw[h,h4];omega
    obtain⟨y,bX⟩:=IW.mc.look (Im a.who);cases hv0:(a.ver==0);case' false=>
     go_wp2_with fail;obtain⟨V,hV⟩:=F9 (a.ver)
    case' true=>
     go_wp2_with fail;obtain⟨V,hV⟩:=F9 (wrap64 (y+1))
    all_goals
     rw[←hV];clear hV
    all_goals
     refine (B0b _ _ _ (Ov _ _) (Ov _ _) W).mono ?_;rintro x w2 ⟨rfl,b2⟩;have I2:=IW.up b2;have cL:=kA.bl b2;obtain⟨u,dE⟩:∃u:UV,u.Ok∧Uk u=Uk (mkU (Qp (Im a.who % 4).toUInt8 77) V (Qp (B5z a.key) (B5z (i:Int)))):=⟨_,C1w _ _ (Ov _ _),rfl⟩;obtain⟨bM,cQ⟩:=dE;rw[←cQ];clear cQ bX a0 a1 a2 dB hv0;have aZ:=bM.len;have bA:=(Bk.new w2 63 (Cl (Py 129))).canvc (n:=129) (Kk _).len;obtain⟨w3,bG⟩:=F9 (D8 (w2.alloc (Obj.cells (Cl (Py 129)).toArray 63)) ⟨w2.heap.size,0,none⟩ (Cl u));have ku:Bk w3 w2.heap.size 63 (Cl u):=by rw[bG];exact (Bk.new w2 63 (Cl (Py 129))).putvc (n:=129) (Kk _).len aZ
     have b3:Below w2.heap.size w2 w3:=by rw[bG];exact C5 (Aw _ _) (Nat.le_refl _) _
     have I3:=I2.up b3;have cI:=cL.bl b3;have c3:=cI.at_ (i:=3) rfl;rw[bG]at c3;obtain⟨x1,dF⟩:∃x1,u.sig[1]?=some x1:=⟨_,List.getElem?_eq_getElem (by rw[bM.sig];decide)⟩;have cM:=UV.sigAt ku bM dF;have cN:=ku.frozen 66;rw[bG]at cM cN;cases hwr:a.wrong;case' false=>
      have bN:=ku.rowvc (n:=129) aZ;rw[bG]at bN;go_wp2_with fail;rw[←bG];clear bN cM cN c3 bG bA;obtain⟨uu,aN⟩:=F9 (u);obtain⟨ww,bQ⟩:=F9 (w3);have bK:uu.Ok:=by rw[aN];exact bM
      have cO:Bk ww w2.heap.size 63 (Cl uu):=by rw[aN,bQ];exact ku
      have II:=I3;have bY:=cI;rw[←bQ]at II bY ⊢;rw[←aN];clear aN bQ
     case' true=>
      have kt:=ku.turn bM (x1 ^^^ 2);have bN:=kt.rowvc (n:=129) (A8k bM _).len;have cR:=I2.up (b3.setCell (p:=⟨w2.heap.size,66,none⟩) (Nat.le_refl _) (.int .u8 (n8 (x1 ^^^ 2))));have cS:=cI.far (p:=⟨w2.heap.size,66,none⟩) (by have:=cL.lt;simp;omega) (.int .u8 (n8 (x1 ^^^ 2)));have cP:=C6y x1;rw[bG]at bN;go_wp2_with fail;rw[←bG];clear bN cM cN c3 bG bA cP;obtain⟨uu,aN⟩:=F9 (A2f u (x1 ^^^ 2));obtain⟨ww,bQ⟩:=F9 (w3.setCell ⟨w2.heap.size,66,none⟩ (.int .u8 (n8 (x1 ^^^ 2))));have bK:uu.Ok:=by rw[aN];exact A8k bM _
      have cO:Bk ww w2.heap.size 63 (Cl uu):=by rw[aN,bQ];exact kt
      have II:=cR;have bY:=cS;rw[←bQ]at II bY ⊢;rw[←aN];clear aN bQ cR cS kt
    all_goals
     clear I3 cI ku bM b3 aZ;refine (A2d uu bK ww).mono ?_;rintro x w5 ⟨rfl,b5⟩;have I5:=II.up b5;have aT:=bY.bl b5;have bR:=cO.bl b5;clear II bY cO b5 b2 I2 cL;generalize w2.heap.size=gu at *;generalize wr.heap.size=ga at *;have aZ:=bK.len
    all_goals
     have bN:=bR.rowvc (n:=129) aZ;have bO:=I5.lo.len;have aU:gs.length=bs.length:=by have:=I5.lg.len;simpa using this
     cases hsg:signedB uu;case false=>
      cases hct:a.cut;case false=>
       go_wp2_with (first | (at_builtin;refine Cv 39 63 (Uk (Py 129)) 129 136 Tryz.underlying39 Tm bS (by decide) (by decide) rfl _ _ rfl rfl I5.uo.2 (Cl uu) aZ (Pa uu) _ rfl rfl rfl (by omega) I5.hW ?_;intro A7 c7 w7 bZ cA aC aO aH bB;have aP:=World.ownsRow.kept I5.bo aH (Z1 I5.bo I5.uo.2 (by decide));have aI:=Nat.le_trans I5.hW aO.size) | (at_builtin;refine Cv 41 4 (.bool false) 1 1 Tryz.underlying41 Wo rfl (by decide) (by decide) rfl _ _ rfl rfl aP [.bool false] rfl aJ _ rfl rfl rfl (by rw[List.length_map];omega) aI ?_;intro A8 c8 w8 cB cC aA bC aQ bD;have aA:w8.ownsRow M 4 1 (.slice A8 (us.length+1) c8) (us.length+1) ((us.map signedB).map Value.bool++[.bool false]):=(by simpa using aA);have I8:=I5.app bK hsg aC aO aH aA bC aQ;have aR:=aT.grown aH (Da aT I5.uo.2 (by decide));have bE:=aR.grown aQ (Da aR aP (by decide));have c4:=bE.at_ (i:=4) rfl));go_roundw;case rel=>exact ⟨i+1,M,m,os,gs,bs,us++[uu],by omega,by omega,by go_num,I8,by omega,by simp;omega,by omega,bL⟩
       case measure=>simp[intOf];omega
      case true=>
       go_wp2_with (first | (at_builtin;refine Cv 39 63 (Uk (Py 129)) 129 136 Tryz.underlying39 Tm bS (by decide) (by decide) rfl _ _ rfl rfl I5.uo.2 (Cl uu) aZ (Pa uu) _ rfl rfl rfl (by omega) I5.hW ?_;intro A7 c7 w7 bZ cA aC aO aH bB;have aP:=World.ownsRow.kept I5.bo aH (Z1 I5.bo I5.uo.2 (by decide));have aI:=Nat.le_trans I5.hW aO.size) | (at_builtin;refine Cv 41 4 (.bool false) 1 1 Tryz.underlying41 Wo rfl (by decide) (by decide) rfl _ _ rfl rfl aP [.bool false] rfl aJ _ rfl rfl rfl (by rw[List.length_map];omega) aI ?_;intro A8 c8 w8 cB cC aA bC aQ bD;have aA:w8.ownsRow M 4 1 (.slice A8 (us.length+1) c8) (us.length+1) ((us.map signedB).map Value.bool++[.bool false]):=(by simpa using aA);have I8:=I5.app bK hsg aC aO aH aA bC aQ;have aR:=aT.grown aH (Da aT I5.uo.2 (by decide));have bE:=aR.grown aQ (Da aR aP (by decide));have c4:=bE.at_ (i:=4) rfl) | (at_builtin;refine Cv 25 39 (.slice none 0 0) 1 24 Tryz.underlying25 A2p rfl (by decide) (by decide) rfl _ _ rfl rfl I8.out [.slice A7 (us.length+1) c7] rfl aD _ rfl rfl rfl (by omega) I8.below.size ?_;intro A9 c9 w9 cE cF aF aV aW bH;have aG:=World.ownsRow.kept I8.good aW (Z1 I8.good I8.out (by decide));have aK:=Nat.le_trans I8.below.size aV.size) | (at_builtin;refine Cv 26 41 (.slice none 0 0) 1 24 Tryz.underlying26 A0m rfl (by decide) (by decide) rfl _ _ rfl rfl aG [.slice A8 (us.length+1) c8] rfl aD _ rfl rfl rfl (by omega) aK ?_;intro cG cH bP bI bJ aB aL aM aX))
       have aS:=I8.cut aF aV aW aB aL aM;rw[bO,aU]at aS;go_roundw;case rel=>exact ⟨i+1,bP.heap.size,m,_,_,bs++[us++[uu]],[],by omega,by omega,by go_num,aS,by omega,by simp,by simp;omega,fun b hb=>by
        rcases List.mem_append.1 hb with hb | hb
        ·exact bL b hb
        ·simp at hb;subst hb;simp;omega⟩
       case measure=>simp[intOf];omega
     case true=>
      obtain⟨y5,dP⟩:=I5.mc.look (Im a.who);cases hvc:(V==wrap64 (y5+1));case false=>
       cases hct:a.cut;case false=>
        go_wp2_with (first | (at_builtin;refine Cv 39 63 (Uk (Py 129)) 129 136 Tryz.underlying39 Tm bS (by decide) (by decide) rfl _ _ rfl rfl I5.uo.2 (Cl uu) aZ (Pa uu) _ rfl rfl rfl (by omega) I5.hW ?_;intro A7 c7 w7 bZ cA aC aO aH bB;have aP:=World.ownsRow.kept I5.bo aH (Z1 I5.bo I5.uo.2 (by decide));have aI:=Nat.le_trans I5.hW aO.size) | (at_builtin;refine Cv 41 4 (.bool false) 1 1 Tryz.underlying41 Wo rfl (by decide) (by decide) rfl _ _ rfl rfl aP [.bool true] rfl aJ _ rfl rfl rfl (by rw[List.length_map];omega) aI ?_;intro A8 c8 w8 cB cC aA bC aQ bD;have aA:w8.ownsRow M 4 1 (.slice A8 (us.length+1) c8) (us.length+1) ((us.map signedB).map Value.bool++[.bool true]):=(by simpa using aA);have I8:=I5.app bK hsg aC aO aH aA bC aQ;have aR:=aT.grown aH (Da aT I5.uo.2 (by decide));have bE:=aR.grown aQ (Da aR aP (by decide));have c4:=bE.at_ (i:=4) rfl));go_roundw;case rel=>exact ⟨i+1,M,m,os,gs,bs,us++[uu],by omega,by omega,by go_num,I8,by omega,by simp;omega,by omega,bL⟩
        case measure=>simp[intOf];omega
       case true=>
        go_wp2_with (first | (at_builtin;refine Cv 39 63 (Uk (Py 129)) 129 136 Tryz.underlying39 Tm bS (by decide) (by decide) rfl _ _ rfl rfl I5.uo.2 (Cl uu) aZ (Pa uu) _ rfl rfl rfl (by omega) I5.hW ?_;intro A7 c7 w7 bZ cA aC aO aH bB;have aP:=World.ownsRow.kept I5.bo aH (Z1 I5.bo I5.uo.2 (by decide));have aI:=Nat.le_trans I5.hW aO.size) | (at_builtin;refine Cv 41 4 (.bool false) 1 1 Tryz.underlying41 Wo rfl (by decide) (by decide) rfl _ _ rfl rfl aP [.bool true] rfl aJ _ rfl rfl rfl (by rw[List.length_map];omega) aI ?_;intro A8 c8 w8 cB cC aA bC aQ bD;have aA:w8.ownsRow M 4 1 (.slice A8 (us.length+1) c8) (us.length+1) ((us.map signedB).map Value.bool++[.bool true]):=(by simpa using aA);have I8:=I5.app bK hsg aC aO aH aA bC aQ;have aR:=aT.grown aH (Da aT I5.uo.2 (by decide));have bE:=aR.grown aQ (Da aR aP (by decide));have c4:=bE.at_ (i:=4) rfl) | (at_builtin;refine Cv 25 39 (.slice none 0 0) 1 24 Tryz.underlying25 A2p rfl (by decide) (by decide) rfl _ _ rfl rfl I8.out [.slice A7 (us.length+1) c7] rfl aD _ rfl rfl rfl (by omega) I8.below.size ?_;intro A9 c9 w9 cE cF aF aV aW bH;have aG:=World.ownsRow.kept I8.good aW (Z1 I8.good I8.out (by decide));have aK:=Nat.le_trans I8.below.size aV.size) | (at_builtin;refine Cv 26 41 (.slice none 0 0) 1 24 Tryz.underlying26 A0m rfl (by decide) (by decide) rfl _ _ rfl rfl aG [.slice A8 (us.length+1) c8] rfl aD _ rfl rfl rfl (by omega) aK ?_;intro cG cH bP bI bJ aB aL aM aX))
        have aS:=I8.cut aF aV aW aB aL aM;rw[bO,aU]at aS;go_roundw;case rel=>exact ⟨i+1,bP.heap.size,m,_,_,bs++[us++[uu]],[],by omega,by omega,by go_num,aS,by omega,by simp,by simp;omega,fun b hb=>by
         rcases List.mem_append.1 hb with hb | hb
         ·exact bL b hb
         ·simp at hb;subst hb;simp;omega⟩
        case measure=>simp[intOf];omega
      case true=>
       obtain⟨D5,cT⟩:=I5.mc;obtain⟨cU,cD⟩:=A7y (Im a.who);have aY:=I5.mc.row;have cV:m<maxLen:=by unfold maxLen;omega
       cases hct:a.cut;case false=>
        go_wp2_with (first | (at_mapUpdate;refine wpList_mapUpdate_own _ rfl _ _ _ 59 rfl 3 3 Tz Tryz.underlying59 RI w.heap.size m D5 rfl cT cV _ _ cU rfl rfl cD (.held (.int .i64 (wrap64 (y5+1)))) [] rfl ?_;intro w6 bF aE;have aT:=Iw aT aE aY;have bR:=Iw bR aE aY;have bN:=bR.rowvc (n:=129) aZ;have I5:=I5.map (Nat.le_refl _) bF aE) | (at_builtin;refine Cv 39 63 (Uk (Py 129)) 129 136 Tryz.underlying39 Tm bS (by decide) (by decide) rfl _ _ rfl rfl I5.uo.2 (Cl uu) aZ (Pa uu) _ rfl rfl rfl (by omega) I5.hW ?_;intro A7 c7 w7 bZ cA aC aO aH bB;have aP:=World.ownsRow.kept I5.bo aH (Z1 I5.bo I5.uo.2 (by decide));have aI:=Nat.le_trans I5.hW aO.size) | (at_builtin;refine Cv 41 4 (.bool false) 1 1 Tryz.underlying41 Wo rfl (by decide) (by decide) rfl _ _ rfl rfl aP [.bool true] rfl aJ _ rfl rfl rfl (by rw[List.length_map];omega) aI ?_;intro A8 c8 w8 cB cC aA bC aQ bD;have aA:w8.ownsRow M 4 1 (.slice A8 (us.length+1) c8) (us.length+1) ((us.map signedB).map Value.bool++[.bool true]):=(by simpa using aA);have I8:=I5.app bK hsg aC aO aH aA bC aQ;have aR:=aT.grown aH (Da aT I5.uo.2 (by decide));have bE:=aR.grown aQ (Da aR aP (by decide));have c4:=bE.at_ (i:=4) rfl));go_roundw;case rel=>exact ⟨i+1,M,m+1,os,gs,bs,us++[uu],by omega,by omega,by go_num,I8,by omega,by simp;omega,by omega,bL⟩
        case measure=>simp[intOf];omega
       case true=>
        go_wp2_with (first | (at_mapUpdate;refine wpList_mapUpdate_own _ rfl _ _ _ 59 rfl 3 3 Tz Tryz.underlying59 RI w.heap.size m D5 rfl cT cV _ _ cU rfl rfl cD (.held (.int .i64 (wrap64 (y5+1)))) [] rfl ?_;intro w6 bF aE;have aT:=Iw aT aE aY;have bR:=Iw bR aE aY;have bN:=bR.rowvc (n:=129) aZ;have I5:=I5.map (Nat.le_refl _) bF aE) | (at_builtin;refine Cv 39 63 (Uk (Py 129)) 129 136 Tryz.underlying39 Tm bS (by decide) (by decide) rfl _ _ rfl rfl I5.uo.2 (Cl uu) aZ (Pa uu) _ rfl rfl rfl (by omega) I5.hW ?_;intro A7 c7 w7 bZ cA aC aO aH bB;have aP:=World.ownsRow.kept I5.bo aH (Z1 I5.bo I5.uo.2 (by decide));have aI:=Nat.le_trans I5.hW aO.size) | (at_builtin;refine Cv 41 4 (.bool false) 1 1 Tryz.underlying41 Wo rfl (by decide) (by decide) rfl _ _ rfl rfl aP [.bool true] rfl aJ _ rfl rfl rfl (by rw[List.length_map];omega) aI ?_;intro A8 c8 w8 cB cC aA bC aQ bD;have aA:w8.ownsRow M 4 1 (.slice A8 (us.length+1) c8) (us.length+1) ((us.map signedB).map Value.bool++[.bool true]):=(by simpa using aA);have I8:=I5.app bK hsg aC aO aH aA bC aQ;have aR:=aT.grown aH (Da aT I5.uo.2 (by decide));have bE:=aR.grown aQ (Da aR aP (by decide));have c4:=bE.at_ (i:=4) rfl) | (at_builtin;refine Cv 25 39 (.slice none 0 0) 1 24 Tryz.underlying25 A2p rfl (by decide) (by decide) rfl _ _ rfl rfl I8.out [.slice A7 (us.length+1) c7] rfl aD _ rfl rfl rfl (by omega) I8.below.size ?_;intro A9 c9 w9 cE cF aF aV aW bH;have aG:=World.ownsRow.kept I8.good aW (Z1 I8.good I8.out (by decide));have aK:=Nat.le_trans I8.below.size aV.size) | (at_builtin;refine Cv 26 41 (.slice none 0 0) 1 24 Tryz.underlying26 A0m rfl (by decide) (by decide) rfl _ _ rfl rfl aG [.slice A8 (us.length+1) c8] rfl aD _ rfl rfl rfl (by omega) aK ?_;intro cG cH bP bI bJ aB aL aM aX))
        have aS:=I8.cut aF aV aW aB aL aM;rw[bO,aU]at aS;go_roundw;case rel=>exact ⟨i+1,bP.heap.size,m+1,_,_,bs++[us++[uu]],[],by omega,by omega,by go_num,aS,by omega,by simp,by simp;omega,fun b hb=>by
         rcases List.mem_append.1 hb with hb | hb
         ·exact bL b hb
         ·simp at hb;subst hb;simp;omega⟩
        case measure=>simp[intOf];omega
  ·
   have hd:decide ((i:Int)<(n:Int))=false:=decide_eq_false (by omega);have cZ:decide (i<n)=false:=decide_eq_false (by omega);have II:=I;have bO:=II.lo.len;have aU:gs.length=bs.length:=by have:=II.lg.len;simpa using this
   obtain⟨Au,cu,rfl,_,_⟩:=Cj II.uo.2;obtain⟨Ab,cb,bV,_,_⟩:=Cj II.bo;rw[List.length_map]at bV;subst bV;go_wp2_with (first | (at_builtin;refine Cv 25 39 (.slice none 0 0) 1 24 Tryz.underlying25 A2p rfl (by decide) (by decide) rfl _ _ rfl rfl II.out [.slice Au us.length cu] rfl aD _ rfl rfl rfl (by omega) II.below.size ?_;intro A9 c9 w9 cE cF aF aV aW bH;have aG:=World.ownsRow.kept II.good aW (Z1 II.good II.out (by decide));have aK:=Nat.le_trans II.below.size aV.size) | (at_builtin;refine Cv 26 41 (.slice none 0 0) 1 24 Tryz.underlying26 A0m rfl (by decide) (by decide) rfl _ _ rfl rfl aG [.slice Ab us.length cb] rfl aD _ rfl rfl rfl (by omega) aK ?_;intro cG cH bP bI bJ aB aL aM aX));have aS:=II.cut aF aV aW aB aL aM;rw[bO,aU]at aS;exact bodyPost_ret (N9 rfl (M7.tmp rfl) (M7.tmp rfl)) rfl ⟨_,_,bs++[us],rfl,aS.made,by simp;omega,fun b hb=>by
    rcases List.mem_append.1 hb with hb | hb
    ·exact bL b hb
    ·simp at hb;subst hb;omega,aS.below⟩
end
section
section
variable {w w' : World} {g o : Nat} {T : TypeId} {ds vs : List Value}
theorem DirIs.put {dv:Value} {e:Nat} {L:List En} {N:Nat} (h:DirIs w dv e L N) (hk:Bk w g T ds) (hd:A8o ds) (hT:T≠147):DirIs (D8 w ⟨g,o,none⟩ vs) dv e L N:=by
 obtain⟨ap,mv,m,t,h1,h2,h3,h4,h5,h6,h7⟩:=h;refine ⟨ap,mv,m,t,h1,?_,fun k=>?_,h4,h5,h6,?_⟩
 ·rcases h2 with h2 | ⟨b,n,hn,hb,hm⟩
  ·exact .inl h2
  ·refine .inr ⟨b,n,hn,hb,hm.kept (Cb w g o vs) fun e=>?_⟩;obtain⟨ob,q1,q2⟩:=hm.row b rfl;injection e with e;subst e;unfold Bk at hk;rw[hk]at q1;injection q1 with q1;subst q1;cases q2
 ·rcases h3 k with h | ⟨h,hn⟩
  ·exact .inl h
  ·refine .inr ⟨?_,hn⟩;have:=C0w (o:=o) (vs:=vs) h hn hk hd;simpa using this
 ·have:=At.put_ hk hT o vs h7;simpa using this
theorem BatchIs.put {ov gv:Value} {bs:List (List UV)} (h:BatchIs w ov gv bs) (hk:Bk w g T ds) (h1:T≠39) (h2:T≠41) (h3:T≠63) (h4:T≠4):BatchIs (D8 w ⟨g,o,none⟩ vs) ov gv bs:=by
 obtain⟨os,gs,a,b,c,d⟩:=h;have hg:=Cb w g o vs;refine ⟨os,gs,World.ownsRow.kept a hg (.inr fun e=>Da hk a h1 e.symm),World.ownsRow.kept b hg (.inr fun e=>Da hk b h2 e.symm),c.mono fun v x y=>?_,d.mono fun v x y=>?_⟩
 ·rcases y with y | ⟨g',tl,c',y1,y2,y3⟩
  ·exact .inl y
  ·exact .inr ⟨g',tl,c',y1,⟨y2.1,y2.2.putFar (fun e=>Bk.apart y2.2 hk h3.symm e) _⟩,by simpa using y3⟩
 ·rcases y with y | ⟨g',tl,c',y1,y2,y3⟩
  ·exact .inl y
  ·exact .inr ⟨g',tl,c',y1,y2.putFar (fun e=>Bk.apart y2 hk h4.symm e) _,by simpa using y3⟩
theorem BatchIs.up {ov gv:Value} {bs:List (List UV)} (h:BatchIs w ov gv bs) (hb:Below w.heap.size w w'):BatchIs w' ov gv bs:=by
 obtain⟨os,gs,a,b,c,d⟩:=h;exact ⟨os,gs,Du a hb (Nat.le_refl _),Du b hb (Nat.le_refl _),c.mono fun v x y=>(y.below hb).more hb.size,d.mono fun v x y=>(y.below hb).more hb.size⟩
theorem BatchIs.form {ov gv:Value} {bs:List (List UV)} (h:BatchIs w ov gv bs):(∃A c,ov=.slice A bs.length c)∧∃A c,gv=.slice A bs.length c:=by
 obtain⟨os,gs,a,b,c,d⟩:=h;have hc:=c.len;have hd:gs.length=bs.length:=by have:=d.len;simpa using this
 rw[hc]at a;rw[hd]at b;obtain⟨A,n,h1,_⟩:=Cj a;obtain⟨A',n',h2,_⟩:=Cj b;exact ⟨⟨A,n,h1⟩,⟨A',n',h2⟩⟩
theorem BatchIs.at_ {A A':Option Addr} {c c' n n':Nat} {bs:List (List UV)} (h:BatchIs w (.slice A n c) (.slice A' n' c') bs) {i:Nat} {us:List UV} (hi:bs[i]?=some us) :
 ∃g1 g2 u v,A=some ⟨g1,0,none⟩∧A'=some ⟨g2,0,none⟩∧g1<w.heap.size∧g2<w.heap.size∧w.cell? ⟨g1,i,none⟩=some u∧w.cell? ⟨g2,i,none⟩=some v∧US w w.heap.size u us∧BS w w.heap.size v (us.map signedB)∧∀(g:Nat) (T:TypeId) (ds:List Value),Bk w g T ds→39≠T→41≠T→g1≠g∧g2≠g:=by
 obtain⟨os,gs,a,b,cc,d⟩:=h;obtain⟨u,hu,aA⟩:=cc.at_ hi;obtain⟨v,hv,aB⟩:=d.at_ (i:=i) (x:=us.map signedB) (by rw[List.getElem?_map,hi];rfl);rcases A5m a with ⟨_,h0⟩ | ⟨g1,t1,c1,e1,k1,l1⟩
 ·have:=(List.getElem?_eq_some_iff.1 hu).1;omega
 ·rcases A5m b with ⟨_,h0⟩ | ⟨g2,t2,c2,e2,k2,l2⟩
  ·have:=(List.getElem?_eq_some_iff.1 hv).1;omega
  ·injection e1 with e1;injection e2 with e2;have q1:(os++t1)[i]?=some u:=by rw[List.getElem?_append_left (List.getElem?_eq_some_iff.1 hu).1];exact hu
   have q2:(gs++t2)[i]?=some v:=by rw[List.getElem?_append_left (List.getElem?_eq_some_iff.1 hv).1];exact hv
   exact ⟨g1,g2,u,v,e1,e2,l1,l2,k1.at_ q1,k2.at_ q2,aA,aB,fun g T ds hk h1 h2=>⟨Bk.apart k1 hk h1,Bk.apart k2 hk h2⟩⟩
end
noncomputable def allE (bs:List (List UV)):List En:=bs.foldl (fun L us=>applyE us L) []
theorem B7p {bs:List (List UV)} {i:Nat} {us:List UV} (h:bs[i]?=some us):allE (bs.take (i+1))=applyE us (allE (bs.take i)):=by
 have e1:bs.take (i+1)=bs.take i++[us]:=by rw[List.take_add_one,h];rfl
 unfold allE;rw[e1,List.foldl_append];rfl
theorem B4t {L:List En} {u:UV} (ok:OkE L) (hu:u.Ok):OkE (Kf L u)∧(Kf L u).length≤L.length+1∧∀x,(lookE (Kf L u) x).length≤(lookE L x).length+1:=by
 unfold Kf;split
 ·exact ⟨ok.with hu.id hu.key,A5f ok hu.id,fun x=>A7n ok hu.id hu.key (i:=0) (fun y=>Nat.le_refl _) x⟩
 ·exact ⟨ok,Nat.le_succ _,fun x=>Nat.le_succ _⟩
theorem Yq:∀ {us:List UV} {L:List En},OkE L→(∀u∈us,u.Ok)→OkE (applyE us L)∧(applyE us L).length≤L.length+us.length∧∀x,(lookE (applyE us L) x).length≤(lookE L x).length+us.length
 | [],L,ok,_=>⟨ok,Nat.le_refl _,fun x=>Nat.le_refl _⟩
 | u::us,L,ok,h=>by
  obtain⟨h1,h2,h3⟩:=B4t ok (h u (by simp));obtain⟨h4,h5,h6⟩:=Yq (us:=us) h1 fun x hx=>h x (List.mem_cons_of_mem _ hx);have e:applyE (u::us) L=applyE us (Kf L u):=rfl;rw[e];refine ⟨h4,?_,fun x=>?_⟩
  ·simp only[List.length_cons];omega
  ·have a:=h6 x;have b:=h3 x;simp only[List.length_cons];omega
theorem A8s (e:Int) (ap:Option Addr) (d:Int) (b:Option Nat):A8o [.int .i64 e,.pointer ap,.int .i64 d,.map b]:=by
 intro x hx y;simp only[List.mem_cons,List.not_mem_nil,or_false]at hx;rcases hx with rfl | rfl | rfl | rfl<;>(intro h;unfold v8 at h;first | cases h | (injection h with h;cases h))
theorem US.allOk {w:World} {B:Nat} {v:Value} {us:List UV} (h:US w B v us):∀u∈us,u.Ok:=by
 rcases h with ⟨rfl,_⟩ | ⟨g,tl,c,_,h2,_⟩
 ·intro u hu;cases hu
 ·exact h2.1
structure DaI (w wr : World) (gD gX : Nat) (ov gv : Value) (bs : List (List UV)) (i : Nat) (dv ev : Value) (L : List En) (N : Nat) : Prop where
 eq:L=allE (bs.take i)
 kd:∃ap b,dv=.agg #[.int .i64 (i:Int),.pointer ap,.int .i64 0,.map b]∧Bk wr gD 34 [.int .i64 (i:Int),.pointer ap,.int .i64 0,.map b]
 kx:∃A c,ev=.slice A L.length c∧Bk wr gX 37 [.int .i64 (i:Int),.slice A L.length c]
 dir:DirIs wr dv i L N
 es:Es wr wr.heap.size ev L
 bat:BatchIs wr ov gv bs
 hN:N≤12*i
 len:L.length≤12*i
 lks:∀x,(lookE L x).length≤12*i
 below:Below w.heap.size w wr
theorem DaI.up {w wr w':World} {gD gX:Nat} {ov gv:Value} {bs:List (List UV)} {i:Nat} {dv ev:Value} {L:List En} {N:Nat} (h:DaI w wr gD gX ov gv bs i dv ev L N) (hb:Below wr.heap.size wr w'):DaI w w' gD gX ov gv bs i dv ev L N:=by
 obtain⟨ap,b,h1,h2⟩:=h.kd;obtain⟨A,c,h3,h4⟩:=h.kx;exact ⟨h.eq,⟨ap,b,h1,h2.bl hb⟩,⟨A,c,h3,h4.bl hb⟩,h.dir.up hb,h.es.up hb,h.bat.up hb,h.hN,h.len,h.lks,E3 h.below hb h.below.size⟩
theorem KS.hs {w:World} {v:Value} {ks:List (List UInt8)} (h:KS w v ks):Hs w 0 w.heap.size v ks:=by
 rcases h with ⟨rfl,rfl⟩ | ⟨h,_⟩
 ·exact ⟨by simp,none,0,rfl,Nat.le_refl _,by decide,.inl rfl⟩
 ·exact h
end
end Go.Proofs.YtlegpkdighoflaaGreat
