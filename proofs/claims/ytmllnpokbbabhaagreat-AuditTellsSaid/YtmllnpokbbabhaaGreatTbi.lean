/- A part of the proof of AuditTells. -/
import Derived.Test.YtmllnpokbbabhaaGreatTbh
set_option linter.unusedVariables false
set_option linter.unusedSimpArgs false
set_option maxRecDepth 100000
set_option maxHeartbeats 40000000
namespace Go.Proofs.YtmllnpokbbabhaaGreat
open Go Go.RowKit Sh
section
section
variable {w wr : World} {M b m : Nat} {ov gv uv bv : Value} {os gs : List Value} {bs : List (List UV)} {us : List UV}
theorem A0q {base sz k:Nat} {T:TypeId} {v:Value} {xs:List Value} (ho:wr.ownsRow base T sz v k xs) (hr:∀r,some b=some r→∃o:Obj,wr.heap[r]?=some o∧o.isCells=false):v.ownBlock=none∨v.ownBlock≠some b:=by
 obtain⟨o,h1,h2⟩:=hr b rfl;rcases ho.2 with ⟨hv,_⟩ | ⟨g,cap,cur,hv,_,hh,_⟩
 ·left;rw[hv];rfl
 ·right
  rw[hv];intro e;injection e with e;subst e;rw[hh]at h1;injection h1 with h1;subst h1;cases h2
theorem US.own {w':World} {B:Nat} {v:Value} {us:List UV} (h:US wr B v us) (hg:wr.grownBy w' (some b)) (hr:∀r,some b=some r→∃o:Obj,wr.heap[r]?=some o∧o.isCells=false):US w' B v us:=by
 rcases h with h | ⟨g,tl,c,h1,h2,h3⟩
 ·exact .inl h
 ·exact .inr ⟨g,tl,c,h1,⟨h2.1,Bv h2.2 hg hr⟩,h3⟩
theorem BS.own {w':World} {B:Nat} {v:Value} {us:List Bool} (h:BS wr B v us) (hg:wr.grownBy w' (some b)) (hr:∀r,some b=some r→∃o:Obj,wr.heap[r]?=some o∧o.isCells=false):BS w' B v us:=by
 rcases h with h | ⟨g,tl,c,h1,h2,h3⟩
 ·exact .inl h
 ·exact .inr ⟨g,tl,c,h1,Bv h2 hg hr,h3⟩
theorem BaI.map (h:BaI w wr M b m ov gv uv bv os gs bs us) (hb:w.heap.size≤b) {w6:World} {D:DataW Value} (ho:w6.ownsMap Tryz.prog 3 RI b (m+1) D) (hg:wr.grownBy w6 (some b)):BaI w w6 M b (m+1) ov gv uv bv os gs bs us:=
 ⟨World.ownsRow.kept h.out hg (A0q h.out h.mc.row),World.ownsRow.kept h.good hg (A0q h.good h.mc.row),h.lo.mono fun _ _ x=>x.own hg h.mc.row,h.lg.mono fun _ _ x=>x.own hg h.mc.row,
  ⟨h.uo.1,World.ownsRow.kept h.uo.2 hg (A0q h.uo.2 h.mc.row)⟩,World.ownsRow.kept h.bo hg (A0q h.bo h.mc.row),⟨D,ho⟩,h.hM,Nat.le_trans h.hW hg.size,h.below.grown hg h.below.size (fun k e=>by cases e;exact hb),h.pub⟩
theorem BaI.app (h:BaI w wr M b m ov gv uv bv os gs bs us) {u:UV} {g:Bool} (hu:u.Ok) (hpu:Pub u) (hgb:signedB u=g) {w7 w8:World} {A7 A8:Option Addr} {c7 c8:Nat}
 (h7:w7.ownsRow M 69 129 (.slice A7 (us.length+1) c7) (us.length+1) (us.flatMap N9++N9 u)) (b7:Below M wr w7) (g7:wr.grownBy w7 uv.ownBlock)
 (h8:w8.ownsRow M 4 1 (.slice A8 (us.length+1) c8) (us.length+1) ((us.map signedB).map Value.bool++[.bool g])) (b8:Below M w7 w8) (g8:w7.grownBy w8 bv.ownBlock) :
 BaI w w8 M b m ov gv (.slice A7 (us.length+1) c7) (.slice A8 (us.length+1) c8) os gs bs (us++[u]):=by
 have aC:=World.ownsRow.kept h.bo g7 (H6 h.bo h.uo.2 (by decide));have aB:=World.ownsRow.kept h.out g7 (H6 h.out h.uo.2 (by decide));have aA:=World.ownsRow.kept h.good g7 (H6 h.good h.uo.2 (by decide));refine ⟨World.ownsRow.kept aB g8 (H6 aB aC (by decide)),World.ownsRow.kept aA g8 (H6 aA aC (by decide)),h.lo.mono fun _ _ x=>(x.below b7).below b8,h.lg.mono fun _ _ x=>(x.below b7).below b8,⟨?_,?_⟩,?_,(h.mc.own h.uo.2 g7).own aC g8,h.hM,Nat.le_trans h.hW (Nat.le_trans b7.size b8.size),h.below.trans ((b7.trans b8).mono h.hM),?_⟩
 ·intro x hx;rcases List.mem_append.1 hx with hx | hx
  ·exact h.uo.1 x hx
  ·simp at hx;subst hx;exact hu
 ·have:=World.ownsRow.kept h7 g8 (H6 h7 aC (by decide));simpa using this
 ·unfold OwnB;subst hgb;simpa using h8
 ·intro l hl x hx;rcases List.mem_cons.1 hl with rfl | hl
  ·rcases List.mem_append.1 hx with hx | hx
   ·exact h.pub us (by simp) x hx
   ·simp at hx;subst hx;exact hpu
  ·exact h.pub l (by simp[hl]) x hx
theorem BaI.cut (h:BaI w wr M b m ov gv uv bv os gs bs us) {w9 w10:World} {A9 A10:Option Addr} {c9 c10:Nat}
 (h9:w9.ownsRow w.heap.size 36 1 (.slice A9 (os.length+1) c9) (os.length+1) (os++[uv])) (b9:Below w.heap.size wr w9) (g9:wr.grownBy w9 ov.ownBlock)
 (h10:w10.ownsRow w.heap.size 55 1 (.slice A10 (gs.length+1) c10) (gs.length+1) (gs++[bv])) (b10:Below w.heap.size w9 w10) (g10:w9.grownBy w10 gv.ownBlock) :
 BaI w w10 w10.heap.size b m (.slice A9 (os.length+1) c9) (.slice A10 (gs.length+1) c10) (.slice none 0 0) (.slice none 0 0) (os++[uv]) (gs++[bv]) (bs++[us]) []:=by
 have aA:=World.ownsRow.kept h.good g9 (H6 h.good h.out (by decide));have hs:=Nat.le_trans h.hW (Nat.le_trans b9.size b10.size);have aB:=Nat.le_trans b9.size b10.size;have fu:∀ {B:Nat} {v:Value} {us:List UV},US wr B v us→US w10 B v us:=fun x=>(x.grown h.out (by decide) g9).grown aA (by decide) g10;have fb:∀ {B:Nat} {v:Value} {us:List Bool},BS wr B v us→BS w10 B v us:=fun x=>(x.grown h.out (by decide) g9).grown aA (by decide) g10;refine ⟨?_,?_,Lot.snoc ((fu h.uo.us).more aB) (h.lo.mono fun _ _ x=>(fu x).more hs),?_,⟨fun u hu=>(by cases hu),World.ownsRow_nil _ _ _ _⟩,World.ownsRow_nil _ _ _ _,(h.mc.own h.out g9).own aA g10,Nat.le_trans h.hM hs,Nat.le_refl _,(h.below.trans b9).trans b10,?_⟩
 ·have:=World.ownsRow.kept h9 g10 (H6 h9 aA (by decide));simpa using this
 ·simpa using h10
 ·rw[List.map_append,List.map_singleton];exact Lot.snoc ((fb h.bo.bs).more aB) (h.lg.mono fun _ _ x=>(fb x).more hs)
 ·intro l hl x hx;rcases List.mem_cons.1 hl with rfl | hl
  ·cases hx
  ·rcases List.mem_append.1 hl with hl | hl
   ·exact h.pub l (by simp[hl]) x hx
   ·simp at hl;subst hl;exact h.pub _ (by simp) x hx
end
def BatchIs (w:World) (ov gv:Value) (bs:List (List UV)):Prop:=∃os gs:List Value,w.ownsRow 0 36 1 ov os.length os∧w.ownsRow 0 55 1 gv gs.length gs∧Lot (US w w.heap.size) os bs∧Lot (BS w w.heap.size) gs (bs.map (·.map signedB))
theorem C3y:RA' 78 #[.int .i64 0,.int .i64 0,.int .i64 0,.bool false,.bool false]:=fun w ρ dst ty pos after guard=>N8 w ρ dst ty pos after guard 78 (.agg (AV.cells ⟨0,0,0,false,false⟩).toArray) D0l
def D1d (w:World) (raw:Result Next) (x y:Value):Result Next:=X5 5 w raw x y
theorem B8y (w:World) (ρ:Operand→Value) (dst:Option Tmp) (ty:TypeId) (pos:String) (after:Array Edge) (guard:Option (Nat×Bool)) (x y:Operand) :
 (execOp ρ { dst,op:=.store 78 x y,type:=ty,pos,after,guard }).run Tryz.prog w=D1d w (O9 Tryz.prog ρ { dst,op:=.store 78 x y,type:=ty,pos,after,guard } w) (ρ x) (ρ y):=C5t w ρ dst ty pos after guard x y
theorem BaI.made {w wr:World} {M b m:Nat} {ov gv uv bv:Value} {os gs:List Value} {bs:List (List UV)} {us:List UV} (h:BaI w wr M b m ov gv uv bv os gs bs us):BatchIs wr ov gv bs:=
 ⟨os,gs,Eo h.out (Nat.zero_le _),Eo h.good (Nat.zero_le _),h.lo.mono fun _ _ x=>x.more h.hW,h.lg.mono fun _ _ x=>x.more h.hW⟩
attribute [local go_sem ↓ high] C9k B8y C3y
theorem Zg (v:Value) (l:List AV) (w:World) (hv:As w w.heap.size v l):Calls Tryz.prog 7 #[v] w fun x w'=>∃ov gv bs,x=.returned (.tuple #[ov,gv])∧BatchIs w' ov gv bs∧bs.length≤13∧(∀b∈bs,b.length≤12)∧(∀b∈bs,∀u∈b,Pub u)∧Below w.heap.size w w':=by
 have HA:=Lib.hid hv;obtain⟨A,c,rfl,cZ,dM,_⟩:=hv;obtain⟨n,hn⟩:=D9 (l.length);have HN:=Lib.hid hn;rw[←hn]at HA cZ ⊢;clear hn;obtain⟨W0,bU⟩:=D9 (w.alloc (.map #[] 0));have B0:=BA' bU;have I0:BaI w W0 W0.heap.size w.heap.size 0 (.slice none 0 0) (.slice none 0 0) (.slice none 0 0) (.slice none 0 0) [] [] [] []:=
  ⟨World.ownsRow_nil _ _ _ _,World.ownsRow_nil _ _ _ _,trivial,trivial,⟨fun u h=>(by cases h),World.ownsRow_nil _ _ _ _⟩,World.ownsRow_nil _ _ _ _,by rw[bU];exact MapC.made w,by rw[bU];simp,Nat.le_refl _,B0,fun l hl u hu=>by simp at hl;subst hl;cases hu⟩
 have dC:=@run_makeMap Tryz.prog;have bT:(Rk (Gk 129)).cells.size=129:=by simp[Rk,N9,Gk,Value.cells]
 have aK:∀ {b:Bool},∀u∈[Value.bool b],u.oneCell'=true:=fun {b} u hu=>by simp at hu;subst hu;rfl
 have aD:∀ {A:Option Addr} {n c:Nat},∀u∈[Value.slice A n c],u.oneCell'=true:=fun {A n c} u hu=>by simp at hu;subst hu;rfl
 go_enter Tryz.func7,Tryz.ntmps7;go_wp2_with fail;rw[←bU];clear bU B0 dC;go_loopw [4,5,6,7,18] (fun ov gv uv bv x wr=>∃(i M m:Nat) (os gs:List Value) (bs:List (List UV)) (us:List UV),i≤n∧i≤12∧x=.int .i64 (i:Int)∧BaI w wr M w.heap.size m ov gv uv bv os gs bs us∧m≤i∧us.length≤i∧bs.length≤i∧∀b∈bs,b.length≤12) (fun _ _ _ _ x _=>n-(intOf x).toNat)
 case atStart=>exact ⟨0,_,0,[],[],[],[],by omega,by omega,rfl,I0,Nat.le_refl _,Nat.le_refl _,Nat.le_refl _,fun b h=>(by cases h)⟩
 case round=>
  clear I0;obtain⟨i,M,m,os,gs,bs,us,hi,dD,rfl,I,dO,dQ,dS,bM⟩:=hrel;by_cases hlt:i<n
  ·have hd:decide ((i:Int)<(n:Int))=true:=decide_eq_true (by omega);have dF:=decide_eq_true hlt;obtain⟨a,ha⟩:∃a,l[i]?=some a:=⟨_,List.getElem?_eq_getElem (by rw[←HN.out];exact hlt)⟩;obtain⟨g,o,rfl,hg,bX⟩:=HA.out.at_ ha;have dT:=(Gj (a:=⟨g,o+i*5,none⟩) I.below hg).trans bX;have k0:Bk (wr.alloc (Obj.cells #[.int .i64 0,.int .i64 0,.int .i64 0,.bool false,.bool false] 78)) wr.heap.size 78 [.int .i64 0,.int .i64 0,.int .i64 0,.bool false,.bool false]:=Bk.new wr _ _;have bB:=Nn 5 k0 (by simp);obtain⟨W,hW⟩:=D9 (C2 (wr.alloc (Obj.cells #[.int .i64 0,.int .i64 0,.int .i64 0,.bool false,.bool false] 78)) ⟨wr.heap.size,0,none⟩ [.int .i64 a.who,.int .i64 a.ver,.int .i64 a.key,.bool a.wrong,.bool a.cut]);have kA:Bk W wr.heap.size 78 [.int .i64 a.who,.int .i64 a.ver,.int .i64 a.key,.bool a.wrong,.bool a.cut]:=by rw[hW];exact k0.puts (by simp)
   have IW:=I.up (w':=W) (by rw[hW];exact C0 (U7 _ _) (Nat.le_refl _) _);clear ha bX k0 I;have a0:=kA.at_ (i:=0) rfl;have a1:=kA.at_ (i:=1) rfl;have a2:=kA.at_ (i:=2) rfl;have dG:∀raw,D1d (wr.alloc (Obj.cells #[.int .i64 0,.int .i64 0,.int .i64 0,.bool false,.bool false] 78)) raw (.pointer (some ⟨wr.heap.size,0,none⟩)) (.agg a.cells.toArray)=.ok .skip W:=fun raw=>by unfold D1d;rw[hW];exact B5r _ _ _ _ _ _ _ _ bB
   clear hW bB;by_cases h12:12≤i
   ·have cL:decide ((12:Int)≤(i:Int))=true:=decide_eq_true (by omega);have cM:=decide_eq_true h12;have II:=IW;have bP:=II.lo.len;have aU:gs.length=bs.length:=by have:=II.lg.len;simpa using this
    obtain⟨Au,cu,rfl,_,_⟩:=F8 II.uo.2;obtain⟨Ab,cb,bY,_,_⟩:=F8 II.bo;rw[List.length_map]at bY;subst bY;go_wp2_with (first | (at_builtin;refine T7 25 36 (.slice none 0 0) 1 24 Tryz.underlying25 A3a rfl (by decide) (by decide) rfl _ _ rfl rfl II.out [.slice Au us.length cu] rfl aD _ rfl rfl rfl (by omega) II.below.size ?_;intro A9 c9 w9 cG cH aF aW aX bI;have aG:=World.ownsRow.kept II.good aX (H6 II.good II.out (by decide));have aL:=Nat.le_trans II.below.size aW.size) | (at_builtin;refine T7 26 55 (.slice none 0 0) 1 24 Tryz.underlying26 A3s rfl (by decide) (by decide) rfl _ _ rfl rfl aG [.slice Ab us.length cb] rfl aD _ rfl rfl rfl (by omega) aL ?_;intro cI cJ bQ bJ bK aB aM aN aY));have aO:=II.cut aF aW aX aB aM aN;rw[bP,aU]at aO;exact bodyPost_ret (C8 rfl (C5.tmp rfl) (C5.tmp rfl)) rfl ⟨_,_,bs++[us],rfl,aO.made,by simp;omega,fun b hb=>by
     rcases List.mem_append.1 hb with hb | hb
     ·exact bM b hb
     ·simp at hb;subst hb;omega,fun b hb=>aO.pub b (List.mem_cons_of_mem _ hb),aO.below⟩
   ·have cL:decide ((12:Int)≤(i:Int))=false:=decide_eq_false (by omega);have cM:decide (12≤i)=false:=decide_eq_false (by omega);have dI:=Wx a.who;have dJ:=A1h a.key;have dU:=A1h (i:Int);have dW:(E6 (Cx a.who)).tmod 4=E6 (Cx a.who % 4):=by unfold E6;rw[UInt64.toNat_mod];rfl
    have dX:=D0r (Cx a.who);have dY:wrap64 (E6 (Cx a.who % 4))=E6 (Cx a.who % 4):=by have h:=UInt64.toNat_mod (Cx a.who) 4;have h4:(4:UInt64).toNat=4:=rfl;unfold wrap64 E6;rw[h,h4];omega
    obtain⟨y,bZ⟩:=IW.mc.look (Cx a.who);cases hv0:(a.ver==0);case' false=>
     go_wp2_with fail;obtain⟨V,hV⟩:=D9 (a.ver)
    case' true=>
     go_wp2_with fail;obtain⟨V,hV⟩:=D9 (wrap64 (y+1))
    all_goals
     rw[←hV];clear hV
    all_goals
     refine (B2k _ _ _ (Mv _ _) (Mv _ _) W).mono ?_;rintro x w2 ⟨rfl,b2⟩;have I2:=IW.up b2;have cN:=kA.bl b2;obtain⟨u,dK⟩:∃u:UV,u.Ok∧Pub u∧Rk u=Rk (mkU (Pz (Cx a.who % 4).toUInt8 77) V (Pz (C0p a.key) (C0p (i:Int)))):=⟨_,C9z _ _ (Mv _ _),⟨Cx a.who,by unfold mkU;rfl⟩,rfl⟩;obtain⟨bN,cS,cT⟩:=dK;rw[←cT];clear cT bZ a0 a1 a2 dG hv0;have bA:=bN.len;have bB:=(Bk.new w2 69 (N9 (Gk 129))).canvc (n:=129) (Ci _).len;obtain⟨w3,bH⟩:=D9 (C2 (w2.alloc (Obj.cells (N9 (Gk 129)).toArray 69)) ⟨w2.heap.size,0,none⟩ (N9 u));have ku:Bk w3 w2.heap.size 69 (N9 u):=by rw[bH];exact (Bk.new w2 69 (N9 (Gk 129))).putvc (n:=129) (Ci _).len bA
     have b3:Below w2.heap.size w2 w3:=by rw[bH];exact C0 (U7 _ _) (Nat.le_refl _) _
     have I3:=I2.up b3;have cK:=cN.bl b3;have c3:=cK.at_ (i:=3) rfl;rw[bH]at c3;obtain⟨x1,dL⟩:∃x1,u.sig[1]?=some x1:=⟨_,List.getElem?_eq_getElem (by rw[bN.sig];decide)⟩;have cO:=UV.sigAt ku bN dL;have cP:=ku.frozen 66;rw[bH]at cO cP;cases hwr:a.wrong;case' false=>
      have bO:=ku.rowvc (n:=129) bA;rw[bH]at bO;go_wp2_with fail;rw[←bH];clear bO cO cP c3 bH bB;obtain⟨uu,aH⟩:=D9 (u);obtain⟨ww,bR⟩:=D9 (w3);have bL:uu.Ok:=by rw[aH];exact bN
      have aV:Pub uu:=by rw[aH];exact cS
      have cQ:Bk ww w2.heap.size 69 (N9 uu):=by rw[aH,bR];exact ku
      have II:=I3;have cA:=cK;rw[←bR]at II cA ⊢;rw[←aH];clear aH bR
     case' true=>
      have kt:=ku.turn bN (x1 ^^^ 2);have bO:=kt.rowvc (n:=129) (B2w bN _).len;have cU:=I2.up (b3.setCell (p:=⟨w2.heap.size,66,none⟩) (Nat.le_refl _) (.int .u8 (n8 (x1 ^^^ 2))));have cV:=cK.far (p:=⟨w2.heap.size,66,none⟩) (by have:=cN.lt;simp;omega) (.int .u8 (n8 (x1 ^^^ 2)));have cR:=D3u x1;rw[bH]at bO;go_wp2_with fail;rw[←bH];clear bO cO cP c3 bH bB cR;obtain⟨uu,aH⟩:=D9 (A1n u (x1 ^^^ 2));obtain⟨ww,bR⟩:=D9 (w3.setCell ⟨w2.heap.size,66,none⟩ (.int .u8 (n8 (x1 ^^^ 2))));have bL:uu.Ok:=by rw[aH];exact B2w bN _
      have aV:Pub uu:=by rw[aH];exact cS
      have cQ:Bk ww w2.heap.size 69 (N9 uu):=by rw[aH,bR];exact kt
      have II:=cU;have cA:=cV;rw[←bR]at II cA ⊢;rw[←aH];clear aH bR cU cV kt
    all_goals
     clear I3 cK ku bN b3 bA;refine (A1v uu bL ww).mono ?_;rintro x w5 ⟨rfl,b5⟩;have I5:=II.up b5;have aT:=cA.bl b5;have bS:=cQ.bl b5;clear II cA cQ b5 b2 I2 cN;generalize w2.heap.size=gu at *;generalize wr.heap.size=ga at *;have bA:=bL.len
    all_goals
     have bO:=bS.rowvc (n:=129) bA;have bP:=I5.lo.len;have aU:gs.length=bs.length:=by have:=I5.lg.len;simpa using this
     cases hsg:signedB uu;case false=>
      cases hct:a.cut;case false=>
       go_wp2_with (first | (at_builtin;refine T7 36 69 (Rk (Gk 129)) 129 136 Tryz.underlying36 Mk bT (by decide) (by decide) rfl _ _ rfl rfl I5.uo.2 (N9 uu) bA (Gy uu) _ rfl rfl rfl (by omega) I5.hW ?_;intro A7 c7 w7 cB cC aC aP aI bC;have aQ:=World.ownsRow.kept I5.bo aI (H6 I5.bo I5.uo.2 (by decide));have aJ:=Nat.le_trans I5.hW aP.size) | (at_builtin;refine T7 55 4 (.bool false) 1 1 Tryz.underlying55 Xp rfl (by decide) (by decide) rfl _ _ rfl rfl aQ [.bool false] rfl aK _ rfl rfl rfl (by rw[List.length_map];omega) aJ ?_;intro A8 c8 w8 cD cE aA bD aR bE;have aA:w8.ownsRow M 4 1 (.slice A8 (us.length+1) c8) (us.length+1) ((us.map signedB).map Value.bool++[.bool false]):=(by simpa using aA);have I8:=I5.app bL aV hsg aC aP aI aA bD aR;have aS:=aT.grown aI (Y0 aT I5.uo.2 (by decide));have bF:=aS.grown aR (Y0 aS aQ (by decide));have c4:=bF.at_ (i:=4) rfl));go_roundw;case rel=>exact ⟨i+1,M,m,os,gs,bs,us++[uu],by omega,by omega,by go_num,I8,by omega,by simp;omega,by omega,bM⟩
       case measure=>simp[intOf];omega
      case true=>
       go_wp2_with (first | (at_builtin;refine T7 36 69 (Rk (Gk 129)) 129 136 Tryz.underlying36 Mk bT (by decide) (by decide) rfl _ _ rfl rfl I5.uo.2 (N9 uu) bA (Gy uu) _ rfl rfl rfl (by omega) I5.hW ?_;intro A7 c7 w7 cB cC aC aP aI bC;have aQ:=World.ownsRow.kept I5.bo aI (H6 I5.bo I5.uo.2 (by decide));have aJ:=Nat.le_trans I5.hW aP.size) | (at_builtin;refine T7 55 4 (.bool false) 1 1 Tryz.underlying55 Xp rfl (by decide) (by decide) rfl _ _ rfl rfl aQ [.bool false] rfl aK _ rfl rfl rfl (by rw[List.length_map];omega) aJ ?_;intro A8 c8 w8 cD cE aA bD aR bE;have aA:w8.ownsRow M 4 1 (.slice A8 (us.length+1) c8) (us.length+1) ((us.map signedB).map Value.bool++[.bool false]):=(by simpa using aA);have I8:=I5.app bL aV hsg aC aP aI aA bD aR;have aS:=aT.grown aI (Y0 aT I5.uo.2 (by decide));have bF:=aS.grown aR (Y0 aS aQ (by decide));have c4:=bF.at_ (i:=4) rfl) | (at_builtin;refine T7 25 36 (.slice none 0 0) 1 24 Tryz.underlying25 A3a rfl (by decide) (by decide) rfl _ _ rfl rfl I8.out [.slice A7 (us.length+1) c7] rfl aD _ rfl rfl rfl (by omega) I8.below.size ?_;intro A9 c9 w9 cG cH aF aW aX bI;have aG:=World.ownsRow.kept I8.good aX (H6 I8.good I8.out (by decide));have aL:=Nat.le_trans I8.below.size aW.size) | (at_builtin;refine T7 26 55 (.slice none 0 0) 1 24 Tryz.underlying26 A3s rfl (by decide) (by decide) rfl _ _ rfl rfl aG [.slice A8 (us.length+1) c8] rfl aD _ rfl rfl rfl (by omega) aL ?_;intro cI cJ bQ bJ bK aB aM aN aY))
       have aO:=I8.cut aF aW aX aB aM aN;rw[bP,aU]at aO;go_roundw;case rel=>exact ⟨i+1,bQ.heap.size,m,_,_,bs++[us++[uu]],[],by omega,by omega,by go_num,aO,by omega,by simp,by simp;omega,fun b hb=>by
        rcases List.mem_append.1 hb with hb | hb
        ·exact bM b hb
        ·simp at hb;subst hb;simp;omega⟩
       case measure=>simp[intOf];omega
     case true=>
      obtain⟨y5,dZ⟩:=I5.mc.look (Cx a.who);cases hvc:(V==wrap64 (y5+1));case false=>
       cases hct:a.cut;case false=>
        go_wp2_with (first | (at_builtin;refine T7 36 69 (Rk (Gk 129)) 129 136 Tryz.underlying36 Mk bT (by decide) (by decide) rfl _ _ rfl rfl I5.uo.2 (N9 uu) bA (Gy uu) _ rfl rfl rfl (by omega) I5.hW ?_;intro A7 c7 w7 cB cC aC aP aI bC;have aQ:=World.ownsRow.kept I5.bo aI (H6 I5.bo I5.uo.2 (by decide));have aJ:=Nat.le_trans I5.hW aP.size) | (at_builtin;refine T7 55 4 (.bool false) 1 1 Tryz.underlying55 Xp rfl (by decide) (by decide) rfl _ _ rfl rfl aQ [.bool true] rfl aK _ rfl rfl rfl (by rw[List.length_map];omega) aJ ?_;intro A8 c8 w8 cD cE aA bD aR bE;have aA:w8.ownsRow M 4 1 (.slice A8 (us.length+1) c8) (us.length+1) ((us.map signedB).map Value.bool++[.bool true]):=(by simpa using aA);have I8:=I5.app bL aV hsg aC aP aI aA bD aR;have aS:=aT.grown aI (Y0 aT I5.uo.2 (by decide));have bF:=aS.grown aR (Y0 aS aQ (by decide));have c4:=bF.at_ (i:=4) rfl));go_roundw;case rel=>exact ⟨i+1,M,m,os,gs,bs,us++[uu],by omega,by omega,by go_num,I8,by omega,by simp;omega,by omega,bM⟩
        case measure=>simp[intOf];omega
       case true=>
        go_wp2_with (first | (at_builtin;refine T7 36 69 (Rk (Gk 129)) 129 136 Tryz.underlying36 Mk bT (by decide) (by decide) rfl _ _ rfl rfl I5.uo.2 (N9 uu) bA (Gy uu) _ rfl rfl rfl (by omega) I5.hW ?_;intro A7 c7 w7 cB cC aC aP aI bC;have aQ:=World.ownsRow.kept I5.bo aI (H6 I5.bo I5.uo.2 (by decide));have aJ:=Nat.le_trans I5.hW aP.size) | (at_builtin;refine T7 55 4 (.bool false) 1 1 Tryz.underlying55 Xp rfl (by decide) (by decide) rfl _ _ rfl rfl aQ [.bool true] rfl aK _ rfl rfl rfl (by rw[List.length_map];omega) aJ ?_;intro A8 c8 w8 cD cE aA bD aR bE;have aA:w8.ownsRow M 4 1 (.slice A8 (us.length+1) c8) (us.length+1) ((us.map signedB).map Value.bool++[.bool true]):=(by simpa using aA);have I8:=I5.app bL aV hsg aC aP aI aA bD aR;have aS:=aT.grown aI (Y0 aT I5.uo.2 (by decide));have bF:=aS.grown aR (Y0 aS aQ (by decide));have c4:=bF.at_ (i:=4) rfl) | (at_builtin;refine T7 25 36 (.slice none 0 0) 1 24 Tryz.underlying25 A3a rfl (by decide) (by decide) rfl _ _ rfl rfl I8.out [.slice A7 (us.length+1) c7] rfl aD _ rfl rfl rfl (by omega) I8.below.size ?_;intro A9 c9 w9 cG cH aF aW aX bI;have aG:=World.ownsRow.kept I8.good aX (H6 I8.good I8.out (by decide));have aL:=Nat.le_trans I8.below.size aW.size) | (at_builtin;refine T7 26 55 (.slice none 0 0) 1 24 Tryz.underlying26 A3s rfl (by decide) (by decide) rfl _ _ rfl rfl aG [.slice A8 (us.length+1) c8] rfl aD _ rfl rfl rfl (by omega) aL ?_;intro cI cJ bQ bJ bK aB aM aN aY))
        have aO:=I8.cut aF aW aX aB aM aN;rw[bP,aU]at aO;go_roundw;case rel=>exact ⟨i+1,bQ.heap.size,m,_,_,bs++[us++[uu]],[],by omega,by omega,by go_num,aO,by omega,by simp,by simp;omega,fun b hb=>by
         rcases List.mem_append.1 hb with hb | hb
         ·exact bM b hb
         ·simp at hb;subst hb;simp;omega⟩
        case measure=>simp[intOf];omega
      case true=>
       obtain⟨D5,cW⟩:=I5.mc;obtain⟨cX,cF⟩:=B2i (Cx a.who);have aZ:=I5.mc.row;have cY:m<maxLen:=by unfold maxLen;omega
       cases hct:a.cut;case false=>
        go_wp2_with (first | (at_mapUpdate;refine wpList_mapUpdate_own _ rfl _ _ _ 76 rfl 3 3 Un Tryz.underlying76 RI w.heap.size m D5 rfl cW cY _ _ cX rfl rfl cF (.held (.int .i64 (wrap64 (y5+1)))) [] rfl ?_;intro w6 bG aE;have aT:=Bv aT aE aZ;have bS:=Bv bS aE aZ;have bO:=bS.rowvc (n:=129) bA;have I5:=I5.map (Nat.le_refl _) bG aE) | (at_builtin;refine T7 36 69 (Rk (Gk 129)) 129 136 Tryz.underlying36 Mk bT (by decide) (by decide) rfl _ _ rfl rfl I5.uo.2 (N9 uu) bA (Gy uu) _ rfl rfl rfl (by omega) I5.hW ?_;intro A7 c7 w7 cB cC aC aP aI bC;have aQ:=World.ownsRow.kept I5.bo aI (H6 I5.bo I5.uo.2 (by decide));have aJ:=Nat.le_trans I5.hW aP.size) | (at_builtin;refine T7 55 4 (.bool false) 1 1 Tryz.underlying55 Xp rfl (by decide) (by decide) rfl _ _ rfl rfl aQ [.bool true] rfl aK _ rfl rfl rfl (by rw[List.length_map];omega) aJ ?_;intro A8 c8 w8 cD cE aA bD aR bE;have aA:w8.ownsRow M 4 1 (.slice A8 (us.length+1) c8) (us.length+1) ((us.map signedB).map Value.bool++[.bool true]):=(by simpa using aA);have I8:=I5.app bL aV hsg aC aP aI aA bD aR;have aS:=aT.grown aI (Y0 aT I5.uo.2 (by decide));have bF:=aS.grown aR (Y0 aS aQ (by decide));have c4:=bF.at_ (i:=4) rfl));go_roundw;case rel=>exact ⟨i+1,M,m+1,os,gs,bs,us++[uu],by omega,by omega,by go_num,I8,by omega,by simp;omega,by omega,bM⟩
        case measure=>simp[intOf];omega
       case true=>
        go_wp2_with (first | (at_mapUpdate;refine wpList_mapUpdate_own _ rfl _ _ _ 76 rfl 3 3 Un Tryz.underlying76 RI w.heap.size m D5 rfl cW cY _ _ cX rfl rfl cF (.held (.int .i64 (wrap64 (y5+1)))) [] rfl ?_;intro w6 bG aE;have aT:=Bv aT aE aZ;have bS:=Bv bS aE aZ;have bO:=bS.rowvc (n:=129) bA;have I5:=I5.map (Nat.le_refl _) bG aE) | (at_builtin;refine T7 36 69 (Rk (Gk 129)) 129 136 Tryz.underlying36 Mk bT (by decide) (by decide) rfl _ _ rfl rfl I5.uo.2 (N9 uu) bA (Gy uu) _ rfl rfl rfl (by omega) I5.hW ?_;intro A7 c7 w7 cB cC aC aP aI bC;have aQ:=World.ownsRow.kept I5.bo aI (H6 I5.bo I5.uo.2 (by decide));have aJ:=Nat.le_trans I5.hW aP.size) | (at_builtin;refine T7 55 4 (.bool false) 1 1 Tryz.underlying55 Xp rfl (by decide) (by decide) rfl _ _ rfl rfl aQ [.bool true] rfl aK _ rfl rfl rfl (by rw[List.length_map];omega) aJ ?_;intro A8 c8 w8 cD cE aA bD aR bE;have aA:w8.ownsRow M 4 1 (.slice A8 (us.length+1) c8) (us.length+1) ((us.map signedB).map Value.bool++[.bool true]):=(by simpa using aA);have I8:=I5.app bL aV hsg aC aP aI aA bD aR;have aS:=aT.grown aI (Y0 aT I5.uo.2 (by decide));have bF:=aS.grown aR (Y0 aS aQ (by decide));have c4:=bF.at_ (i:=4) rfl) | (at_builtin;refine T7 25 36 (.slice none 0 0) 1 24 Tryz.underlying25 A3a rfl (by decide) (by decide) rfl _ _ rfl rfl I8.out [.slice A7 (us.length+1) c7] rfl aD _ rfl rfl rfl (by omega) I8.below.size ?_;intro A9 c9 w9 cG cH aF aW aX bI;have aG:=World.ownsRow.kept I8.good aX (H6 I8.good I8.out (by decide));have aL:=Nat.le_trans I8.below.size aW.size) | (at_builtin;refine T7 26 55 (.slice none 0 0) 1 24 Tryz.underlying26 A3s rfl (by decide) (by decide) rfl _ _ rfl rfl aG [.slice A8 (us.length+1) c8] rfl aD _ rfl rfl rfl (by omega) aL ?_;intro cI cJ bQ bJ bK aB aM aN aY))
        have aO:=I8.cut aF aW aX aB aM aN;rw[bP,aU]at aO;go_roundw;case rel=>exact ⟨i+1,bQ.heap.size,m+1,_,_,bs++[us++[uu]],[],by omega,by omega,by go_num,aO,by omega,by simp,by simp;omega,fun b hb=>by
         rcases List.mem_append.1 hb with hb | hb
         ·exact bM b hb
         ·simp at hb;subst hb;simp;omega⟩
        case measure=>simp[intOf];omega
  ·
   have hd:decide ((i:Int)<(n:Int))=false:=decide_eq_false (by omega);have dF:decide (i<n)=false:=decide_eq_false (by omega);have II:=I;have bP:=II.lo.len;have aU:gs.length=bs.length:=by have:=II.lg.len;simpa using this
   obtain⟨Au,cu,rfl,_,_⟩:=F8 II.uo.2;obtain⟨Ab,cb,bY,_,_⟩:=F8 II.bo;rw[List.length_map]at bY;subst bY;go_wp2_with (first | (at_builtin;refine T7 25 36 (.slice none 0 0) 1 24 Tryz.underlying25 A3a rfl (by decide) (by decide) rfl _ _ rfl rfl II.out [.slice Au us.length cu] rfl aD _ rfl rfl rfl (by omega) II.below.size ?_;intro A9 c9 w9 cG cH aF aW aX bI;have aG:=World.ownsRow.kept II.good aX (H6 II.good II.out (by decide));have aL:=Nat.le_trans II.below.size aW.size) | (at_builtin;refine T7 26 55 (.slice none 0 0) 1 24 Tryz.underlying26 A3s rfl (by decide) (by decide) rfl _ _ rfl rfl aG [.slice Ab us.length cb] rfl aD _ rfl rfl rfl (by omega) aL ?_;intro cI cJ bQ bJ bK aB aM aN aY));have aO:=II.cut aF aW aX aB aM aN;rw[bP,aU]at aO;exact bodyPost_ret (C8 rfl (C5.tmp rfl) (C5.tmp rfl)) rfl ⟨_,_,bs++[us],rfl,aO.made,by simp;omega,fun b hb=>by
    rcases List.mem_append.1 hb with hb | hb
    ·exact bM b hb
    ·simp at hb;subst hb;omega,fun b hb=>aO.pub b (List.mem_cons_of_mem _ hb),aO.below⟩
end
def upW (s:RS):UInt64:=w8L (Nt 8 (Az 32 s))
def B1j (s:RS):RS:=Az 64 (Az 32 (Az 8 (Az 32 s)))
def A4u (s:RS):UV:=⟨Re s,wrap64 (E6 (upW s)),Re (Az 8 (Az 32 s)),sgL (Az 32 (Az 8 (Az 32 s)))⟩
def B1d (s:RS):Bool:=decide (64<(upW s).toNat)
def Iz (s:RS):Bool:=Nj s==0||Nj s==11
def Xw:Nat→RS→List UV→Bool→List UV×Bool×RS
 | 0,s,us,f=>(us,f,s)
 | n+1,s,us,f=>if Iz s then Xw n (B1j s) (us++[A4u s]) (f||B1d s) else (us,f,s)
def Fm (l:List UInt8):List UV×Int:=
 let r:=Xw (Ji (l,0)) (Lf (l,0)) [] false
 if Nj r.2.2=0 then (if r.2.1 then ([],13) else (r.1,0)) else ([],Nj r.2.2)
theorem Fd (s:RS):(Re s).length=32:=by
 unfold Re;split
 ·simp
 ·rename_i h
  unfold Nt at h ⊢;split at h
  ·rename_i h2;rw[if_pos h2,List.length_take];omega
  ·exact (h rfl).elim
theorem A1d (s:RS):(sgL s).length=64:=by
 unfold sgL;split
 ·simp
 ·rename_i h
  unfold Nt at h ⊢;split at h
  ·rename_i h2;rw[if_pos h2,List.length_take];omega
  ·exact (h rfl).elim
theorem D3r (s:RS):(A4u s).Ok:=⟨Fd _,Fd _,A1d _⟩
structure HpI (w wr : World) (g : Nat) (ov : Value) (us : List UV) (s : RS) : Prop where
 rd:WRd wr g s
 row:OwnU wr (g+1) ov us
 below:Below w.heap.size w wr
 hg:w.heap.size≤g
theorem HpI.up {w wr w':World} {g:Nat} {ov:Value} {us:List UV} {s:RS} (h:HpI w wr g ov us s) (hb:Below wr.heap.size wr w'):HpI w w' g ov us s:=
 ⟨h.rd.up hb,⟨h.row.1,J7 h.row.2 hb (Nat.le_refl _)⟩,C3 h.below hb h.below.size,h.hg⟩
theorem HpI.tk {w wr w':World} {g:Nat} {ov:Value} {us:List UV} {s s':RS} (h:HpI w wr g ov us s) (hT:TkR wr w' g s'):HpI w w' g ov us s':=
 ⟨hT.rd,⟨h.row.1,World.ownsRow.kept h.row.2 hT.gr (by
  cases hv:ov.ownBlock with
  | none=>exact .inl rfl
  | some k=>
   refine .inr fun e=>?_;injection e with e;have:=h.row.2.lt k hv;omega)⟩,h.below.grown hT.gr h.below.size (fun k e=>by cases e;exact h.hg),h.hg⟩
theorem HpI.box {w wr:World} {g:Nat} {ov:Value} {us:List UV} {s:RS} (h:HpI w wr g ov us s) {b:Nat} (hb:g<b) (hne:∀k,ov.ownBlock=some k→k≠b) (o:Nat) (vs:List Value):HpI w (C2 wr ⟨b,o,none⟩ vs) g ov us s:=
 ⟨h.rd.putFar hb vs,⟨h.row.1,World.ownsRow.kept h.row.2 (S4 wr b o vs) (by
  cases hv:ov.ownBlock with
  | none=>exact .inl rfl
  | some k=>exact .inr fun e=>hne k hv (by injection e))⟩,C0 h.below (by have:=h.hg;simp;omega) vs,h.hg⟩
theorem D4x {W:World} {g:Nat} {t:TypeId} {id k s:List UInt8} {v:Int} (K:Bk W g t (N9 ⟨id,0,z8 32,z8 64⟩)) (hi:id.length=32) (hk:k.length=32) (hs:s.length=64) :
 Bk (C2 (C2 (W.setCell ⟨g,32,none⟩ (.int .i64 v)) ⟨g,33,none⟩ (c8 k)) ⟨g,65,none⟩ (c8 s)) g t (N9 ⟨id,v,k,s⟩):=by
 have h1:=K.set_ 32 (.int .i64 v);have e1:(N9 ⟨id,0,z8 32,z8 64⟩).set 32 (.int .i64 v)=N9 ⟨id,v,z8 32,z8 64⟩:=by unfold N9;rw[List.set_append_right _ _ (by simp[hi])];simp[hi]
 rw[e1]at h1;have h2:=h1.put (o:=33) (vs:=c8 k) (by simp[N9,hi,hk]);have e2:(N9 ⟨id,v,z8 32,z8 64⟩).take 33++c8 k++(N9 ⟨id,v,z8 32,z8 64⟩).drop (33+(c8 k).length)=N9 ⟨id,v,k,z8 64⟩:=by
  simp[N9,hi,hk,List.take_append,List.drop_append,List.take_of_length_le,List.drop_eq_nil_of_le,c8]
 rw[e2]at h2;have h3:=h2.put (o:=65) (vs:=c8 s) (by simp[N9,hi,hk,hs]);have e3:(N9 ⟨id,v,k,z8 64⟩).take 65++c8 s++(N9 ⟨id,v,k,z8 64⟩).drop (65+(c8 s).length)=N9 ⟨id,v,k,s⟩:=by
  simp[N9,hi,hk,hs,List.take_append,List.drop_append,List.take_of_length_le,List.drop_eq_nil_of_le,c8]
 rw[e3]at h3;exact h3
theorem A3v (v:Value) (l:List UInt8) (w:World) (hv:By w 0 w.heap.size v l) (hn:l.length≤1099511627776) :
 Calls Tryz.prog 84 #[v] w fun x w'=>∃u,x=.returned (.tuple #[u,.int .i64 (Fm l).2])∧OwnU w' w.heap.size u (Fm l).1∧Below w.heap.size w w':=by
 obtain⟨R,hR⟩:=D9 (Xw (Ji (l,0)) (Lf (l,0)) [] false);have HR:=Lib.hid hR;have HP:Hid (Fm l=if Nj R.2.2=0 then (if R.2.1 then ([],13) else (R.1,0)) else ([],Nj R.2.2)):=Lib.hid (by rw[hR];rfl);obtain⟨pu,aV⟩:=D9 (Fm l);rw[←aV]at HP ⊢;clear hR aV;go_enter Tryz.func84,Tryz.ntmps84;go_wp2_with fail;refine (A6z v l w hv hn).mono ?_;rintro x w1 ⟨g,rfl,hg,aI,b1⟩;clear hv;go_wp2_with fail;refine (Tw g (l,0) w1 aI).mono ?_;rintro x w2 ⟨rfl,hT⟩;have I0:HpI w w2 g (.slice none 0 0) [] (Lf (l,0)):=HpI.tk (s:=(l,0)) ⟨aI,⟨fun u hu=>(by cases hu),World.ownsRow_nil _ _ _ _⟩,b1,hg⟩ hT;have aW:Ji (l,0)≤65536:=Mh _ _;obtain⟨m0,aJ⟩:=D9 (Ji (l,0));obtain⟨s0,aK⟩:=D9 (Lf (l,0));have aX:Hid (R=Xw m0 s0 [] false):=Lib.hid (by rw[HR.out,aJ,aK]);rw[←aK]at I0;rw[←aJ]at aW ⊢;clear hT aI aJ aK HR b1;go_wp2_with fail;go_loopw [5,6,7] (fun ov fv nv wr=>∃(m:Nat) (us:List UV) (f:Bool) (s:RS),nv=.int .i64 (m:Int)∧fv=.bool f∧HpI w wr g ov us s∧Hid (R=Xw m s us f)∧us.length+m≤65536) (fun _ _ nv _=>(intOf nv).toNat)
 case atStart=>exact ⟨m0,[],false,s0,rfl,rfl,I0,aX,by simpa using aW⟩
 case round=>
  clear I0 aX;obtain⟨m,us,f,s,rfl,rfl,I,aG,bG⟩:=hrel;obtain⟨Ao,co,rfl,-,-⟩:=F8 I.row.2;rcases Nat.eq_zero_or_pos m with hm | hm
  ·subst hm;have aL:R=(us,f,s):=aG.out;go_wp2_with fail;refine (Ac g s wr I.rd).mono ?_;rintro x wx ⟨rfl,rfl⟩;have HF:=HP.out;rw[aL]at HF;simp only at HF;by_cases hz:Nj s=0
   ·rw[if_pos hz]at HF;have aB:(Nj s==0)=true:=by rw[hz];rfl
    rw[hz];clear hz aB;cases f with
    | true=>
     rw[if_pos rfl]at HF;subst HF;go_wp2_with fail;exact bodyPost_ret (C8 rfl (C5.tmp rfl) (C5.tmp rfl)) rfl ⟨_,rfl,⟨fun u hu=>(by cases hu),World.ownsRow_nil _ _ _ _⟩,I.below⟩
    | false=>
     rw[if_neg (by decide)]at HF;subst HF;go_wp2_with fail;exact bodyPost_ret (C8 rfl (C5.tmp rfl) (C5.tmp rfl)) rfl ⟨_,rfl,⟨I.row.1,Eo I.row.2 (by have:=I.hg;omega)⟩,I.below⟩
   ·rw[if_neg hz]at HF;have aB:=beq_eq_false_iff_ne.2 hz;subst HF;clear hz;go_wp2_with fail;exact bodyPost_ret (C8 rfl (C5.tmp rfl) (C5.tmp rfl)) rfl ⟨_,rfl,⟨fun u hu=>(by cases hu),World.ownsRow_nil _ _ _ _⟩,I.below⟩
  ·obtain⟨m',rfl⟩:∃m',m=m'+1:=⟨m-1,by omega⟩;have hd:decide ((0:Int)<((m'+1:Nat):Int))=true:=decide_eq_true (by omega);have bN:decide (0<m'+1)=true:=decide_eq_true (by omega);by_cases hw:Iz s=true
   ·have bH:Hid (R=Xw m' (B1j s) (us++[A4u s]) (f||B1d s)):=Lib.hid (by
     have:=aG.out;unfold Xw at this;rw[if_pos hw]at this;exact this)
    have aM:(Nj s==0)=false→(Nj s==11)=true:=fun h=>by
     unfold Iz at hw;rw[h,Bool.false_or]at hw;exact hw
    clear aG hw;cases hz:(Nj s==0);case' false=>
     have bI:=aM hz;clear aM;go_wp2_with fail;refine (Ac g s wr I.rd).mono ?_;rintro x wx ⟨rfl,hx⟩;rw[hx];clear hx wx;go_wp2_with fail;refine (Ac g s wr I.rd).mono ?_;rintro x wx ⟨rfl,hx⟩;rw[hx];clear hx wx;go_wp2_with fail;clear bI
    case' true=>
     clear aM;go_wp2_with fail;refine (Ac g s wr I.rd).mono ?_;rintro x wx ⟨rfl,hx⟩;rw[hx];clear hx wx;go_wp2_with fail
    all_goals
     clear hz;refine (Rt g s wr I.rd).mono ?_;rintro x w3 ⟨rfl,aY⟩;have I3:=I.tk aY;have aA:=Fd s;have aC:(⟨Re s,0,z8 32,z8 64⟩:UV).length=129:=UV.Ok.len ⟨aA,by simp,by simp⟩;have aN:=(Bk.new w3 69 (N9 (Gk 129))).canvc (n:=129) (Ci _).len;obtain⟨W4,aH⟩:=D9 (C2 (w3.alloc (Obj.cells (N9 (Gk 129)).toArray 69)) ⟨w3.heap.size,0,none⟩ (N9 ⟨Re s,0,z8 32,z8 64⟩));have ku:Bk W4 w3.heap.size 69 (N9 ⟨Re s,0,z8 32,z8 64⟩):=by rw[aH];exact (Bk.new w3 69 (N9 (Gk 129))).putvc (n:=129) (Ci _).len aC
     have b4:Below w3.heap.size w3 W4:=by rw[aH];exact C0 (U7 _ _) (Nat.le_refl _) _
     have I4:=I3.up b4;have aO:g<w3.heap.size:=I3.rd.lt;have aP:∀k,(Value.slice Ao us.length co).ownBlock=some k→k≠w3.heap.size:=fun k hk=>by have:=(I3.row.2.lt k hk).2;omega
     go_wp2_with fail;rw[←aH];clear aH aN b4 I3 aY aC I;generalize w3.heap.size=gu at *;refine (B1h g (Az 32 s) W4 I4.rd).mono ?_;rintro x w5 ⟨rfl,aQ⟩;rw[show w8L (Nt 8 (Az 32 s))=upW s from rfl];have I5:=I4.tk aQ;have aZ:=ku.grown aQ.gr (by simp;omega);have bJ:decide ((64:Int)<E6 (upW s))=B1d s:=by
      unfold B1d E6;rw[decide_eq_decide];omega
     clear I4 aQ ku
    all_goals
     rcases Bool.eq_false_or_eq_true f with hf | hf
    all_goals
     go_wp2_with fail;refine (Rt g (Az 8 (Az 32 s)) w5 I5.rd).mono ?_;rintro x w6 ⟨rfl,aR⟩;have I6:=I5.tk aR;have bA:=aZ.grown aR.gr (by simp;omega);clear I5 aR aZ bJ;go_wp2_with fail;refine (C9g g (Az 32 (Az 8 (Az 32 s))) w6 I6.rd).mono ?_;rintro x w7 ⟨rfl,aS⟩;have I7:=I6.tk aS;have aD:=bA.grown aS.gr (by simp;omega);clear I6 aS bA;have aT:=Fd (Az 8 (Az 32 s));have bK:=A1d (Az 32 (Az 8 (Az 32 s)));have Fw:w7.cell? ⟨gu,32,none⟩=some (.int .i64 0):=UV.loadver aD ⟨aA,by simp,by simp⟩;have bO:=aD.frozen 32;have aU:=aD.set_ 32 (.int .i64 (wrap64 (E6 (upW s))));have bB:F9 (w7.setCell ⟨gu,32,none⟩ (.int .i64 (wrap64 (E6 (upW s))))) ⟨gu,33,none⟩ 32=true:=aU.can (by simp[N9,aA]);have bC:=aU.put (o:=33) (vs:=c8 (Re (Az 8 (Az 32 s)))) (by simp[N9,aA,aT]);have bD:F9 (C2 (w7.setCell ⟨gu,32,none⟩ (.int .i64 (wrap64 (E6 (upW s))))) ⟨gu,33,none⟩ (c8 (Re (Az 8 (Az 32 s))))) ⟨gu,65,none⟩ 64=true:=bC.can (by simp[N9,aA,aT]);have k8:Bk (C2 (C2 (w7.setCell ⟨gu,32,none⟩ (.int .i64 (wrap64 (E6 (upW s))))) ⟨gu,33,none⟩ (c8 (Re (Az 8 (Az 32 s))))) ⟨gu,65,none⟩ (c8 (sgL (Az 32 (Az 8 (Az 32 s)))))) gu 69 (N9 (A4u s)):=D4x aD aA aT bK;have I8:HpI w (C2 (C2 (w7.setCell ⟨gu,32,none⟩ (.int .i64 (wrap64 (E6 (upW s))))) ⟨gu,33,none⟩ (c8 (Re (Az 8 (Az 32 s))))) ⟨gu,65,none⟩ (c8 (sgL (Az 32 (Az 8 (Az 32 s)))))) g (.slice Ao us.length co) us (B1j s):=
      ((I7.box aO aP 32 [.int .i64 (wrap64 (E6 (upW s)))]).box aO aP 33 _).box aO aP 65 _
     have bE:=D3r s;have aC:=bE.len;have r8:=k8.rowvc (n:=129) aC;have bL:(Rk (Gk 129)).cells.size=129:=by simp[Rk,N9,Gk,Value.cells]
     have aE:g+1≤(C2 (C2 (w7.setCell ⟨gu,32,none⟩ (.int .i64 (wrap64 (E6 (upW s))))) ⟨gu,33,none⟩ (c8 (Re (Az 8 (Az 32 s))))) ⟨gu,65,none⟩ (c8 (sgL (Az 32 (Az 8 (Az 32 s)))))).heap.size:=I8.rd.lt;clear aU bC aD I7;go_wp2_with (first | (at_builtin;refine T7 36 69 (Rk (Gk 129)) 129 136 Tryz.underlying36 Mk bL (by decide) (by decide) rfl _ _ rfl rfl I8.row.2 (N9 (A4u s)) aC (Gy _) _ rfl rfl (by simp) (by omega) aE ?_;intro A9 c9 w9 bP bQ aF bF bR bM) | fail);have I9:HpI w w9 g (.slice A9 (us.length+1) c9) (us++[A4u s]) (B1j s):=
      ⟨I8.rd.below bF (by omega),⟨fun u hu=>(by
       rcases List.mem_append.1 hu with hu | hu
       ·exact I8.row.1 u hu
       ·simp at hu;subst hu;exact bE),by simpa using aF⟩,I8.below.trans (bF.mono (by have:=I8.hg;omega)),I8.hg⟩
     go_wp2_with fail;go_roundw;case rel=>exact ⟨m',us++[A4u s],f||B1d s,B1j s,rfl,by rw[hf];first | rfl | simp,I9,bH,by simp;omega⟩
     case measure=>simp[intOf]
   ·have aL:R=(us,f,s):=by have:=aG.out;unfold Xw at this;rw[if_neg hw]at this;exact this
    have bS:(Nj s==0)=false:=by
     cases h:(Nj s==0) with
     | false=>rfl
     | true=>exact (hw (by unfold Iz;rw[h];rfl)).elim
    have bT:(Nj s==11)=false:=by
     cases h:(Nj s==11) with
     | false=>rfl
     | true=>exact (hw (by unfold Iz;rw[h,Bool.or_true])).elim
    go_wp2_with fail;refine (Ac g s wr I.rd).mono ?_;rintro x wx ⟨rfl,rfl⟩;go_wp2_with fail;refine (Ac g s wx I.rd).mono ?_;rintro x wy ⟨rfl,rfl⟩;go_wp2_with fail;refine (Ac g s wy I.rd).mono ?_;rintro x wz ⟨rfl,rfl⟩;have HF:=HP.out;rw[aL]at HF;simp only at HF;by_cases hz:Nj s=0
    ·rw[if_pos hz]at HF;have aB:(Nj s==0)=true:=by rw[hz];rfl
     rw[hz];clear hz aB;cases f with
     | true=>
      rw[if_pos rfl]at HF;subst HF;go_wp2_with fail;exact bodyPost_ret (C8 rfl (C5.tmp rfl) (C5.tmp rfl)) rfl ⟨_,rfl,⟨fun u hu=>(by cases hu),World.ownsRow_nil _ _ _ _⟩,I.below⟩
     | false=>
      rw[if_neg (by decide)]at HF;subst HF;go_wp2_with fail;exact bodyPost_ret (C8 rfl (C5.tmp rfl) (C5.tmp rfl)) rfl ⟨_,rfl,⟨I.row.1,Eo I.row.2 (by have:=I.hg;omega)⟩,I.below⟩
    ·rw[if_neg hz]at HF;have aB:=beq_eq_false_iff_ne.2 hz;subst HF;clear hz;go_wp2_with fail;exact bodyPost_ret (C8 rfl (C5.tmp rfl) (C5.tmp rfl)) rfl ⟨_,rfl,⟨fun u hu=>(by cases hu),World.ownsRow_nil _ _ _ _⟩,I.below⟩
def Ox:Nat→RS→List (List UInt8)→List (List UInt8)×RS
 | 0,s,ks=>(ks,s)
 | n+1,s,ks=>if Iz s then Ox n (Az 32 s) (ks++[Re s]) else (ks,s)
abbrev G0 := List UInt8 × List (List UInt8) × List UInt8
def Nr:Nat→RS→List G0→List G0×RS
 | 0,s,out=>(out,s)
 | n+1,s,out=>if Iz s then Nr n (rbS (Ox (Ji (Az 32 s)) (Lf (Az 32 s)) []).2) (out++[(Re s,(Ox (Ji (Az 32 s)) (Lf (Az 32 s)) []).1,Zo (Ox (Ji (Az 32 s)) (Lf (Az 32 s)) []).2)]) else (out,s)
abbrev Gr := List UInt8 × List (List UInt8) × List UV
def Ey:List G0→List Gr→Except Int (List Gr)
 | [],acc=>.ok acc
 | q::L,acc=>if (Fm q.2.2).2=0 then Ey L (acc++[(q.1,q.2.1,(Fm q.2.2).1)]) else .error (Fm q.2.2).2
def Dt (l:List UInt8):Except Int (Pt×List Gr):=
 let r:=Nr (Ji (rbS (l,0))) (Lf (rbS (l,0))) []
 if Nj r.2=0 then (match Dm (Zo (l,0)) with
  | .error m=>.error (m:Int)
  | .ok p=>match Ey r.1 [] with
   | .error e=>.error e
   | .ok gs=>.ok (p,gs)) else .error (Nj r.2)
theorem B3h (gb g:Nat) (s:RS) (w:World) (hb:Bk w gb 147 [.pointer (some ⟨g,0,none⟩)]) (h:WRd w g s) :
 Calls Tryz.prog 79 #[.pointer (some ⟨gb,0,none⟩)] w fun e w'=>e=.returned (.bool (Iz s))∧w'=w:=by
 have cb:w.cell? ⟨gb,0,none⟩=some (.pointer (some ⟨g,0,none⟩)):=hb.at_ rfl;obtain⟨r,hr⟩:=D9 (Iz s);rw[←hr];cases h0:(Nj s==0);case' false=>
  have e:r=(Nj s==11):=by rw[hr];unfold Iz;rw[h0,Bool.false_or]
  rw[e];clear hr e r;go_enter Tryz.func79,Tryz.ntmps79;go_wp2_with fail;refine (Ac g s w h).mono ?_;rintro x wx ⟨rfl,hx⟩;rw[hx];clear hx wx;go_wp2_with fail;refine (Ac g s w h).mono ?_;rintro x wx ⟨rfl,hx⟩;rw[hx];clear hx wx;go_wp2_with fail;go_ret;exact ⟨rfl,rfl⟩
 case' true=>
  have e:r=true:=by rw[hr];unfold Iz;rw[h0,Bool.true_or]
  rw[e];clear hr e r;go_enter Tryz.func79,Tryz.ntmps79;go_wp2_with fail;refine (Ac g s w h).mono ?_;rintro x wx ⟨rfl,hx⟩;rw[hx];clear hx wx;go_wp2_with fail;go_ret;exact ⟨rfl,rfl⟩
end Go.Proofs.YtmllnpokbbabhaaGreat
