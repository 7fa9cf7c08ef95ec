/- A part of the proof of DirBuilds. -/
import Derived.Lib.SlBytesConst
import Derived.Test.YtlegpkdighoflaaGreatSax
set_option linter.unusedVariables false
set_option linter.unusedSimpArgs false
set_option maxRecDepth 100000
set_option maxHeartbeats 40000000
namespace Go.Proofs.YtlegpkdighoflaaGreat
open Go Go.RowKit Sh
theorem B4t (w:World):Calls Tryz.prog 81 #[.slice none 0 0] w fun e w'=>e=.returned (.slice none 0 0)∧w=w':=by
 have aA:∀(w:World) (a:Option Addr) (n c n' c':Nat),(binOp .eql 45 (.slice a n c) (.slice none n' c')).run Tryz.prog w=.ok (.bool a.isNone) w:=fun w a n c n' c'=>Lib.run_eql_slice_nil w _ _ a n c n' c' Tryz.underlying45;go_enter Tryz.func81,Tryz.ntmps81;go_wp2;go_ret;exact ⟨rfl,rfl⟩
theorem B5l (v:Value) (l:List UInt8) (w:World) (hv:By w 0 w.heap.size v l) (hne:0<l.length) (hn:l.length≤1099511627776) :
 Calls Tryz.prog 81 #[v] w fun e w'=>∃u,e=.returned u∧P7 w' w.heap.size u l∧Below w.heap.size w w':=by
 obtain⟨g,o,c,rfl,h1,h2,_,_,_⟩:=hv.row hne;have aA:=Lib.hid (hv.alloc (Nat.le_refl _) (.cells #[] 5));clear hv;have aD:∀(w:World) (a:Option Addr) (n c n' c':Nat),(binOp .eql 45 (.slice a n c) (.slice none n' c')).run Tryz.prog w=.ok (.bool a.isNone) w:=fun w a n c n' c'=>Lib.run_eql_slice_nil w _ _ a n c n' c' Tryz.underlying45;have ho:Hid (P7 (w.alloc (.cells #[] 5)) w.heap.size (.slice (some ⟨w.heap.size,0,none⟩) 0 0) []):=Lib.hid (World.ownsRow_made w #[] 0 (Nat.le_refl _) (Nat.zero_le _) (by simp));go_enter Tryz.func81,Tryz.ntmps81;go_wp2_with (at_builtin;refine A2s _ w.heap.size _ [] rfl _ _ rfl rfl ho.out _ rfl l 0 _ aA.out (by simp;omega) (by simp) ?_;intro A2 c2 w2 aE aF aB aC aG aH);go_ret;exact ⟨_,rfl,by simpa using aB,((Below.refl _ _).alloc (Nat.le_refl _) _).trans aC⟩
theorem B9k (v:UInt64) (m:Nat) (hm:m<8):(U9 v).take m++[(v >>> UInt64.ofNat (56-8*m)).toUInt8]=(U9 v).take (m+1):=by
 match m,hm with
 | 0,_=>rfl
 | 1,_=>rfl
 | 2,_=>rfl
 | 3,_=>rfl
 | 4,_=>rfl
 | 5,_=>rfl
 | 6,_=>rfl
 | 7,_=>
  show [(v >>> 56).toUInt8,(v >>> 48).toUInt8,(v >>> 40).toUInt8,(v >>> 32).toUInt8,(v >>> 24).toUInt8,(v >>> 16).toUInt8,(v >>> 8).toUInt8]++[(v >>> UInt64.ofNat 0).toUInt8]=U9 v;have:v >>> UInt64.ofNat 0=v:=by
   apply UInt64.toNat_inj.1;rw[UInt64.toNat_shiftRight];simp
  rw[this];rfl
@[simp] theorem A9n (v : UInt64) : (U9 v).length = 8 := rfl
def D0s (w:World) (bv:Value) (l:List UInt8):Prop:=(bv=.slice none 0 0∧l=[])∨(By w 0 w.heap.size bv l∧0<l.length∧l.length≤1099511627776)
theorem A9y (bv:Value) (l:List UInt8) (w:World) (h:D0s w bv l):Calls Tryz.prog 81 #[bv] w fun e w'=>∃u,e=.returned u∧P7 w' w.heap.size u l∧Below w.heap.size w w':=by
 rcases h with ⟨rfl,rfl⟩ | ⟨h1,h2,h3⟩
 ·refine (B4t w).mono ?_;rintro e w' ⟨rfl,rfl⟩;exact ⟨_,rfl,P7.nil _ _,Below.refl _ _⟩
 ·exact B5l bv l w h1 h2 h3
theorem Ph (bv:Value) (l:List UInt8) (v:UInt64) (w:World) (h:D0s w bv l) (hl:l.length≤1099511627776) :
 Calls Tryz.prog 54 #[bv,.int .u64 (J0 v)] w fun e w'=>∃u,e=.returned u∧P7 w' w.heap.size u (l++U9 v)∧Below w.heap.size w w':=by
 have H:=Lib.hid h;clear h;go_enter Tryz.func54,Tryz.ntmps54;go_wp2_with fail;refine (A9y bv l w H.out).mono ?_;rintro e w1 ⟨u,rfl,O1,b1⟩;have aC:P7 w1 w.heap.size u (l++(U9 v).take 0):=by simpa using O1
 have O1:=Lib.hid aC;clear aC;go_wp2_with fail;go_loopw [5,6] (fun s x wr=>∃m:Nat,m≤8∧x=.int .i64 (56-8*(m:Int))∧P7 wr w.heap.size s (l++(U9 v).take m)∧Below w.heap.size w wr) (fun _ x _=>(intOf x+8).toNat)
 case atStart=>exact ⟨0,by omega,rfl,O1.out,b1⟩
 case round=>
  clear O1 b1;obtain⟨m,hm,rfl,O,B⟩:=hrel;by_cases hlt:m<8
  ·obtain⟨s,hs⟩:∃s,s=56-8*m:=⟨_,rfl⟩;have es:56-8*(m:Int)=(s:Int):=by omega
   have aD:s<64:=by omega
   have hd:decide (0≤(s:Int))=true:=decide_eq_true (by omega);rw[es];have HS:Hid ((U9 v).take m++[(v >>> UInt64.ofNat s).toUInt8]=(U9 v).take (m+1)):=Lib.hid (by rw[hs];exact B9k v m hlt);have ES:=Lib.hid es;have aB:(l++(U9 v).take m).length≤2199023255552:=by simp;omega
   clear hs es;obtain⟨L,hL⟩:∃L,L=l++(U9 v).take m:=⟨_,rfl⟩;have HL:Hid (L++[(v >>> UInt64.ofNat s).toUInt8]=l++(U9 v).take (m+1)):=Lib.hid (by rw[hL,List.append_assoc,HS.out]);rw[←hL]at O aB;clear hL HS;have O':=Lib.hid O;clear O;go_wp2_with (at_builtin;refine Jp _ w.heap.size _ L rfl _ _ rfl rfl O'.out _ _ rfl rfl (by omega) B.size ?_;intro A2 c2 w7 aG aH aE aF;generalize (L++[(v >>> UInt64.ofNat s).toUInt8]).length=L7 at *);go_roundw;case rel=>exact ⟨m+1,by omega,by rw[←ES.out];all_goals (simp<;>omega),by rw[←HL.out];exact aE,B.trans aF⟩
   case measure=>have:=ES.out;simp[intOf]<;>omega
  ·obtain rfl:m=8:=by omega
   have aA:(U9 v).take 8=U9 v:=rfl;rw[aA]at O;have O':=Lib.hid O;clear O aA;go_wp2_with fail;go_ret;exact ⟨_,rfl,O'.out,B⟩
theorem P7.up {w:World} {base:Nat} {v:Value} {l:List UInt8} (h:P7 w base v l):By w 0 w.heap.size v l:=By.less h.by_ (Nat.zero_le _)
def C5m (l x:List UInt8):List UInt8:=l++U9 (UInt64.ofNat x.length)++x
theorem B1j (l x:List UInt8):(C5m l x).length=l.length+8+x.length:=by simp[C5m];omega
theorem B3o (bv xv:Value) (l x:List UInt8) (w:World) (h:D0s w bv l) (hx:By w 0 w.heap.size xv x) (hl:l.length≤1099511627) (hxl:x.length≤1099511627776) :
 Calls Tryz.prog 111 #[bv,xv] w fun e w'=>∃u,e=.returned u∧P7 w' w.heap.size u (C5m l x)∧Below w.heap.size w w':=by
 obtain⟨A,c,rfl,h2,h3,_⟩:=hx.open_;have hw:IntKind.u64.wrap (x.length:Int)=J0 (UInt64.ofNat x.length):=by
  rw[Fz];unfold J0;simp
 have H:=Lib.hid h;have HX:=Lib.hid hx;have HE:Hid (C5m l x=(l++U9 (UInt64.ofNat x.length))++x):=Lib.hid rfl;obtain⟨n,hn⟩:∃n,n=x.length:=⟨_,rfl⟩;rw[←hn]at hw HE h2 hxl HX ⊢;have HN:=Lib.hid hn;clear h hx hn;go_enter Tryz.func111,Tryz.ntmps111;go_wp2_with fail;refine (Ph bv l (UInt64.ofNat n) w H.out (by omega)).mono ?_;rintro e w1 ⟨u,rfl,O1,b1⟩;have aC:=Lib.hid O1;have aD:=Lib.hid (By.up HX.out b1);have aA:(l++U9 (UInt64.ofNat n)).length≤1099511628000:=by simp;omega
 obtain⟨L,hL⟩:∃L,L=l++U9 (UInt64.ofNat n):=⟨_,rfl⟩;rw[←hL]at HE aA;have O2:Hid (P7 w1 w.heap.size u L):=Lib.hid (by rw[hL];exact O1);clear O1 aC hL hw;go_wp2_with (at_builtin;refine A2s _ w.heap.size _ L rfl _ _ rfl rfl O2.out _ rfl x 0 _ aD.out (by rw[←HN.out];omega) b1.size ?_;intro A2 c2 w2 aF aG aB aE aH aI);go_ret;rw[List.length_append]at aB;exact ⟨_,rfl,by rw[HE.out];exact aB,b1.trans aE⟩
theorem B9h (v:Value) (ls:List (List UInt8)) (w:World) (hp:L6 w w.heap.size v ls) (hsz:ls.flatten.length≤17592186044416) :
 Calls Tryz.prog 70 #[v] w fun e w'=>∃u,e=.returned u∧P7 w' w.heap.size u ls.flatten∧Below w.heap.size w w':=by
 have H:=Lib.hid hp;clear hp;go_enter Tryz.func70,Tryz.ntmps70;go_wp2_with fail;refine (Tq v ls w H.out hsz).mono ?_;rintro e w1 ⟨u,rfl,O1,b1⟩;have O:=Lib.hid O1;clear O1;go_wp2_with fail;go_ret;exact ⟨_,rfl,O.out,b1⟩
def Gp:List UInt8:=[119,105,116,97,110]
def Z3 (tag:UInt8) (body:List UInt8):List UInt8:=C5m (Gp++[tag]) body
theorem A7l (tag:UInt8) (body:List UInt8):(Z3 tag body).length=14+body.length:=by unfold Z3;rw[B1j];simp[Gp]
theorem A8c:(Gp.map v8).toArray=#[.int .u8 119,.int .u8 105,.int .u8 116,.int .u8 97,.int .u8 110]:=by kernel_rfl
theorem B0k (tag:UInt8) (xv:Value) (x:List UInt8) (w:World) (hx:By w 0 w.heap.size xv x) (hxl:x.length≤1099511627776) :
 Calls Tryz.prog 69 #[.int .u8 (n8 tag),xv] w fun e w'=>∃u,e=.returned u∧P7 w' w.heap.size u (Z3 tag x)∧Below w.heap.size w w':=by
 obtain⟨C,hC⟩:∃C:Array Value,C=#[.int .u8 119,.int .u8 105,.int .u8 116,.int .u8 97,.int .u8 110]:=⟨_,rfl⟩;have aG:C.toList=Gp.map v8:=by rw[hC,←A8c]
 have aA:=Go.Lib.run_convert_bytes_const (P:=Tryz.prog) w 45 5 C 5 5 Tryz.underlying45 Tryz.underlying5;have aO:(convert 45 45 (.slice (some ⟨w.heap.size,0,none⟩) 5 5)).run Tryz.prog (w.alloc (.cells #[.int .u8 119,.int .u8 105,.int .u8 116,.int .u8 97,.int .u8 110] 5))=.ok (.slice (some ⟨w.heap.size,0,none⟩) 5 5) (w.alloc (.cells #[.int .u8 119,.int .u8 105,.int .u8 116,.int .u8 97,.int .u8 110] 5 (5,6))):=by rw[hC]at aA;exact aA
 have aH:Below w.heap.size w ((w.alloc (.cells #[.int .u8 119,.int .u8 105,.int .u8 116,.int .u8 97,.int .u8 110] 5 (5,6))).alloc (.cells #[.int .u8 (n8 tag)] 5)):=((Below.refl _ _).alloc (Nat.le_refl _) _).alloc (by simp) _;have aB:∀j u,(Gp.map v8)[j]?=some u→((w.alloc (.cells #[.int .u8 119,.int .u8 105,.int .u8 116,.int .u8 97,.int .u8 110] 5 (5,6))).alloc (.cells #[.int .u8 (n8 tag)] 5)).cell? ⟨w.heap.size,j,none⟩=some u:=fun j u hj=>by
  refine Go.Lib.cell?_alloc_marked _ ?_;rw[cell_of_row _ w.heap.size j #[.int .u8 119,.int .u8 105,.int .u8 116,.int .u8 97,.int .u8 110] 5 (5,6) (heap_alloc_new w _),←hC,←Array.getElem?_toList,aG];exact hj
 have aC:∀j u,([v8 tag]:List Value)[j]?=some u→((w.alloc (.cells #[.int .u8 119,.int .u8 105,.int .u8 116,.int .u8 97,.int .u8 110] 5 (5,6))).alloc (.cells #[.int .u8 (n8 tag)] 5)).cell? ⟨w.heap.size+1,j,none⟩=some u:=fun j u hj=>by
  have h1:=cell_of_row _ (w.alloc (.cells #[.int .u8 119,.int .u8 105,.int .u8 116,.int .u8 97,.int .u8 110] 5 (5,6))).heap.size j #[.int .u8 (n8 tag)] 5 (0,0) (heap_alloc_new (w.alloc (.cells #[.int .u8 119,.int .u8 105,.int .u8 116,.int .u8 97,.int .u8 110] 5 (5,6))) (.cells #[.int .u8 (n8 tag)] 5));have e:(w.alloc (.cells #[.int .u8 119,.int .u8 105,.int .u8 116,.int .u8 97,.int .u8 110] 5 (5,6))).heap.size=w.heap.size+1:=by simp
  rw[e]at h1;rw[h1];simpa [v8] using hj
 obtain⟨i0,aI,aJ,aK,aL⟩:=info_parts A3y;have K1:Hid (some (⟨w.heap.size,0,none⟩:Addr)=none→(5:Nat)=0∧(5:Nat)=0):=Lib.hid (fun h=>by cases h);have K2:Hid ((Gp.map v8).length=5*1):=Lib.hid (by decide);have K3:Hid (∀b:Addr,some (⟨w.heap.size,0,none⟩:Addr)=some b→∀j u,(Gp.map v8)[j]?=some u→((w.alloc (.cells #[.int .u8 119,.int .u8 105,.int .u8 116,.int .u8 97,.int .u8 110] 5 (5,6))).alloc (.cells #[.int .u8 (n8 tag)] 5)).cell? (b.add j)=some u):=Lib.hid (fun b hb j u hj=>by injection hb with hb;subst hb;rw[U0,Nat.zero_add];exact aB j u hj);have K5:Hid (∀j u,([v8 tag]:List Value)[j]?=some u→((w.alloc (.cells #[.int .u8 119,.int .u8 105,.int .u8 116,.int .u8 97,.int .u8 110] 5 (5,6))).alloc (.cells #[.int .u8 (n8 tag)] 5)).cell? ((⟨w.heap.size+1,0,none⟩:Addr).add j)=some u):=Lib.hid (fun j u hj=>by rw[U0,Nat.zero_add];exact aC j u hj);have K6:Hid (∀u∈([v8 tag]:List Value),u.oneCell'=true):=Lib.hid (by intro u hu;simp at hu;subst hu;rfl);have HX:=Lib.hid hx;have HI:=Lib.hid aI;have aP:=Lib.hid aJ;have aQ:=Lib.hid aK;have aR:=Lib.hid aL;have HB:=Lib.hid aH;clear hx aI aJ aK aL aB aC hC aG aA aH;go_enter Tryz.func69,Tryz.ntmps69
 go_wp2_with (at_builtin;refine wpList_append_grows _ rfl _ _ 45 rfl 5 i0 _ 1 1 Tryz.underlying45 HI.out aP.out aQ.out aR.out rfl (by decide) (some ⟨w.heap.size,0,none⟩) 5 5 (Gp.map v8) rfl K1.out K2.out K3.out ⟨w.heap.size+1,0,none⟩ 1 1 [v8 tag] rfl rfl K5.out K6.out (by decide) (by decide) (by decide) ?_;intro v' w2 aD aM);have aF:P7 w2 w.heap.size v' (Gp++[tag]):=by
  refine P7.less ?_ HB.out.size;exact aD
 have aE:Below w.heap.size w w2:=HB.out.trans ((Below.refl _ _).grown aM HB.out.size (fun k hk=>by cases hk));obtain⟨A2,c2,rfl,_,_⟩:=aF.form;have aN:Hid (Gp.length=5):=Lib.hid rfl;have HF:Hid (D0s w2 (.slice A2 (Gp++[tag]).length c2) (Gp++[tag])):=Lib.hid (.inr ⟨aF.up,by simp,by simp[aN.out]⟩);have aS:=Lib.hid (By.up HX.out aE);clear aF aD aM aO;go_wp2_with fail;refine (B3o _ _ (Gp++[tag]) x w2 HF.out aS.out (by simp[aN.out]) hxl).mono ?_;rintro e w3 ⟨u,rfl,O3,b3⟩;have aT:=Lib.hid O3;clear O3;go_wp2_with fail;go_ret;exact ⟨_,rfl,P7.less aT.out aE.size,aE.trans (b3.mono aE.size)⟩
theorem By.formE {w:World} {B:Nat} {v:Value} {l:List UInt8} (h:By w 0 B v l):∃A n c,v=.slice A n c:=by
 obtain⟨A,c,rfl,_⟩:=h.open_;exact ⟨_,_,_,rfl⟩
theorem D4i {tag:UInt8} {body:List UInt8} (h:body.length≤1000000):[Z3 tag body].flatten.length≤1000000000:=by simp[A7l];omega
noncomputable def Gn (seed:List UInt8) (tag:UInt8) (body:List UInt8):List UInt8:=Nt seed [Z3 tag body]
noncomputable def Ff (key:List UInt8) (tag:UInt8) (body sig:List UInt8):Bool:=Cy key sig [Z3 tag body]
@[simp, go_sem] theorem Ga (seed : List UInt8) (tag : UInt8) (body : List UInt8) : (Gn seed tag body).length = 64 := Ik _ _
theorem C4w (seed:List UInt8) (tag:UInt8) (bv:Value) (body:List UInt8) (hs:seed.length=32) (w:World) (hb:By w 0 w.heap.size bv body) (hbl:body.length≤1000000):Calls Tryz.prog 43 #[A8 seed,.int .u8 (n8 tag),bv] w fun e w'=>e=.returned (A8 (Gn seed tag body))∧Below w.heap.size w w':=by
 have HB:=Lib.hid hb;clear hb;obtain⟨W0,aN⟩:∃z,z=((w.alloc (Obj.cells (c8 seed).toArray 23)).alloc (Obj.cells (c8 (z8 64)).toArray 61)):=⟨_,rfl⟩;have hL:W0=Q5 w [(23,(c8 seed)),(61,(c8 (z8 64)))]:=aN;have B0:Below w.heap.size w W0:=by rw[hL];exact J9 _ _
 have aA:Bk W0 (w.heap.size) 23 (c8 seed):=by rw[hL];exact F9 _ w 0 _ _ rfl
 have aC:Bk W0 (w.heap.size+1) 61 (c8 (z8 64)):=by rw[hL];exact F9 _ w 1 _ _ rfl
 have z0:w.heap.size+2≤W0.heap.size:=by rw[hL,H9];simp
 have bC:W0.heap.size=w.heap.size+2:=by rw[hL,H9];rfl
 clear hL;go_enter Tryz.func43,Tryz.ntmps43;go_wp2_with fail;rw[←aN];clear aN bC;have S1:Below W0.heap.size W0 W0.drew:=(Below.refl _ _).drew;refine F2 (fun W=>Bk W (w.heap.size) 23 (c8 seed)) (by kernel_rfl) ?_;refine C6 (A:=?bF) [0,1,2] (by kernel_rfl) (by kernel_rfl) rfl (by kernel_rfl) (by kernel_rfl) (aA.drew) (h:=fun W hW=>?bD) (hr:=?bG);case bD=>
  have f0:=Bk.row8 (n:=32) (hW) (hs);simp only[pick,List.getElem?_cons_zero,List.getElem?_cons_succ];repeat (go_big_quiet_step (fail))
  refine wpQuiet_nil ?_;rfl
 refine N9 [zb 3 10 (Z3 tag body),zs 4 11 1 [(Z3 tag body)],zv 5 12 (A8 (Nt seed [(Z3 tag body)]))] (by kernel_rfl) (fun W hW=>(aA.drew.below hW aA.drew.lt)) ?aF ?aG ?aH;case aF=>exact (List.forall_mem_cons.2 ⟨zb_mono _ _ _,(List.forall_mem_cons.2 ⟨zs_mono _ _ _ _,(List.forall_mem_cons.2 ⟨H7 _ _ _,(fun _ h=>by cases h)⟩)⟩)⟩)
 case aG=>
  refine (List.forall_mem_cons.2 ⟨?aO,(List.forall_mem_cons.2 ⟨?aP,(List.forall_mem_cons.2 ⟨?aQ,(fun _ h=>by cases h)⟩)⟩)⟩);case aO=>
   intro o ho us W hW hp Q' hQ';obtain rfl:=Option.some.inj ho;clear hp ho;rw[C2]at hQ' ⊢;dsimp only[E4,E0,List.foldl,zv,za,zs,zp,zb]at hQ' ⊢;simp only[List.set_cons_succ,List.set_cons_zero];have bW:=C0 B0 (C0 S1 hW S1.size) B0.size;have aX:=Lib.hid (HB.out.up bW);clear bW;go_wp2_with fail;refine (B0k tag _ body W aX.out (by omega)).mono ?_;rintro e W2 ⟨v2,rfl,aR,b2⟩;have aR:=Lib.hid aR;go_wp2_with fail;exact C5 (hQ' _ _ b2 aR.out.up (fun h=>by cases h)) (by kernel_rfl)
  case aP=>intro o ho us W hW hp Q' hQ';obtain rfl:=Option.some.inj ho;have aB:By W 0 W.heap.size (us 3) (Z3 tag body):=hp 0 _ rfl (by kernel_rfl);obtain⟨A3,n3,c3,aS⟩:=aB.formE;rw[aS]at aB;have aB:=Lib.hid aB;clear hp ho;rw[C2]at hQ' ⊢;dsimp only[E4,E0,List.foldl,zv,za,zs,zp,zb]at hQ' ⊢;simp only[List.set_cons_succ,List.set_cons_zero];rw[aS]at hQ' ⊢;clear aS;go_wp2_with fail;exact C5 (hQ' _ _ ((Below.refl _ _).alloc (Nat.le_refl _) _) ⟨_,rfl,(L6.one W _ _ (Z3 tag body) aB.out).more (by simp)⟩ (fun h=>by cases h)) (by kernel_rfl)
  case aQ=>
   intro o ho us W hW hp Q' hQ';obtain rfl:=Option.some.inj ho;have aB:By W 0 W.heap.size (us 3) (Z3 tag body):=hp 0 _ rfl (by kernel_rfl);have aB:=Lib.hid aB;obtain⟨aY,aI,aJ⟩:=hp 1 _ rfl (by kernel_rfl);have aI:us 4=.slice (some ⟨aY,0,none⟩) 1 1:=aI;have aJ:L6 W W.heap.size (.slice (some ⟨aY,0,none⟩) 1 1) [(Z3 tag body)]:=by rw[←aI];exact aJ
   have aJ:=Lib.hid aJ;clear hp ho;rw[C2]at hQ' ⊢;dsimp only[E4,E0,List.foldl,zv,za,zs,zp,zb]at hQ' ⊢;simp only[List.set_cons_succ,List.set_cons_zero];rw[aI]at hQ' ⊢;clear aI;have bW:=C0 B0 (C0 S1 hW S1.size) B0.size;have aX:=Lib.hid (HB.out.up bW);clear bW;go_wp2_with fail;refine (C4b seed _ [(Z3 tag body)] hs W aJ.out (by simp) (by simp) (D4i hbl)).mono ?_;rintro e W2 ⟨rfl,b2⟩;go_wp2_with fail;exact C5 (hQ' _ _ b2 rfl (fun h=>by cases h)) (by kernel_rfl)
 case aH=>
 intro us W2 b3 hg aT bE;have aZ:By W2 0 W2.heap.size (us 3) (Z3 tag body):=hg _ (List.mem_of_getElem? (i:=0) rfl);have aZ:=Lib.hid aZ;have bB:us 5=(A8 (Nt seed [(Z3 tag body)])):=hg _ (List.mem_of_getElem? (i:=2) rfl);have b4:=C0 S1 b3 S1.size;rw[C2];dsimp only[E0,List.foldl,zv,za,zs,zp,zb];simp only[List.set_cons_succ,List.set_cons_zero];rw[bB];clear hg aT bE bB b3 S1;have B2:=C0 B0 b4 B0.size;have z2:=Nat.le_trans z0 b4.size;have aK:=aA.below b4 aA.lt;have aD:=aC.below b4 aC.lt;clear b4 B0 z0 aA aC;obtain⟨W5,aE⟩:∃z,z=C9 W2 ⟨w.heap.size+1,0,none⟩ (c8 (Nt seed [(Z3 tag body)])):=⟨_,rfl⟩;have aU:Bk W5 (w.heap.size+1) 61 (c8 (Nt seed [(Z3 tag body)])):=by rw[aE];exact Bk.put8 (aD) ((show (z8 64).length=64 from by simp)) ((Ik seed [(Z3 tag body)]))
 have aV:Bk W5 (w.heap.size) 23 (c8 seed):=by rw[aE];exact aK.putFar (p:=⟨w.heap.size+1,0,none⟩) (by show w.heap.size≠w.heap.size+1;omega) _
 have B5:Below w.heap.size w W5:=by rw[aE];exact C1 B2 (by show w.heap.size≤w.heap.size+1;omega) _
 have aL:E8 W2 ⟨w.heap.size+1,0,none⟩ 64=true:=Bk.can8 (aD) ((show (z8 64).length=64 from by simp));have aM:(Nt seed [(Z3 tag body)]).length=64:=(Ik seed [(Z3 tag body)]);refine C4 6 (by kernel_rfl) (by rfl) (by rfl) (fun Q' hQ'=>?_);dsimp only[E4];go_wp2_with fail;rw[←aE];refine hQ' _ _ aV ?_;clear hQ' aL aM;have z5:w.heap.size+2≤W5.heap.size:=by have hz:=z2;rw[aE];simp;omega
 clear aE B2 z2 aK aD;refine I9 (by kernel_rfl) ?_;go_wp2_with fail;have aW:(Nt seed [(Z3 tag body)]).length=64:=(Ik seed [(Z3 tag body)]);refine bodyPost_ret (E9 rfl _ _ _ _ _ _ rfl aU Tryz.underlying61 rfl (by simp[Ox,aW])) rfl ⟨rfl,B5⟩
theorem C0s (key:List UInt8) (tag:UInt8) (bv:Value) (body:List UInt8) (sig:List UInt8) (hk:key.length=32) (hg:sig.length=64) (w:World) (hb:By w 0 w.heap.size bv body) (hbl:body.length≤1000000):Calls Tryz.prog 50 #[A8 key,.int .u8 (n8 tag),bv,A8 sig] w fun e w'=>e=.returned (.bool (Ff key tag body sig))∧Below w.heap.size w w':=by
 have HB:=Lib.hid hb;clear hb;obtain⟨W0,aK⟩:∃z,z=((w.alloc (Obj.cells (c8 key).toArray 23)).alloc (Obj.cells (c8 sig).toArray 61)):=⟨_,rfl⟩;have hL:W0=Q5 w [(23,(c8 key)),(61,(c8 sig))]:=aK;have B0:Below w.heap.size w W0:=by rw[hL];exact J9 _ _
 have aA:Bk W0 (w.heap.size) 23 (c8 key):=by rw[hL];exact F9 _ w 0 _ _ rfl
 have aB:Bk W0 (w.heap.size+1) 61 (c8 sig):=by rw[hL];exact F9 _ w 1 _ _ rfl
 have z0:w.heap.size+2≤W0.heap.size:=by rw[hL,H9];simp
 have aV:W0.heap.size=w.heap.size+2:=by rw[hL,H9];rfl
 clear hL;go_enter Tryz.func50,Tryz.ntmps50;go_wp2_with fail;rw[←aK];clear aK aV;have S1:Below W0.heap.size W0 W0.drew:=(Below.refl _ _).drew;refine F2 (fun W=>Bk W (w.heap.size) 23 (c8 key)∧Bk W (w.heap.size+1) 61 (c8 sig)) (by kernel_rfl) ?_;refine C6 (A:=?bB) [0,1,2,3] (by kernel_rfl) (by kernel_rfl) rfl (by kernel_rfl) (by kernel_rfl) ⟨(aA.drew),(aB.drew)⟩ (h:=fun W hW=>?aW) (hr:=?bC);case aW=>
  have f0:=Bk.row8 (n:=32) (hW.1) (hk);have f1:=Bk.row8 (n:=64) (hW.2) (hg);simp only[pick,List.getElem?_cons_zero,List.getElem?_cons_succ];repeat (go_big_quiet_step (fail))
  refine wpQuiet_nil ?_;rfl
 refine N9 [zb 4 13 (Z3 tag body),zs 5 14 1 [(Z3 tag body)],zv 6 15 (.bool (Cy key sig [(Z3 tag body)])),zv 7 8 (.bool (Cy key sig [(Z3 tag body)]))] (by kernel_rfl) (fun W hW=>⟨(aA.drew.below hW aA.drew.lt),(aB.drew.below hW aB.drew.lt)⟩) ?aF ?aG ?aH;case aF=>exact (List.forall_mem_cons.2 ⟨zb_mono _ _ _,(List.forall_mem_cons.2 ⟨zs_mono _ _ _ _,(List.forall_mem_cons.2 ⟨H7 _ _ _,(List.forall_mem_cons.2 ⟨H7 _ _ _,(fun _ h=>by cases h)⟩)⟩)⟩)⟩)
 case aG=>
  refine (List.forall_mem_cons.2 ⟨?aL,(List.forall_mem_cons.2 ⟨?aM,(List.forall_mem_cons.2 ⟨?aN,(List.forall_mem_cons.2 ⟨?aO,(fun _ h=>by cases h)⟩)⟩)⟩)⟩);case aL=>
   intro o ho us W hW hp Q' hQ';obtain rfl:=Option.some.inj ho;clear hp ho;rw[C2]at hQ' ⊢;dsimp only[E4,E0,List.foldl,zv,za,zs,zp,zb]at hQ' ⊢;simp only[List.set_cons_succ,List.set_cons_zero];have bW:=C0 B0 (C0 S1 hW S1.size) B0.size;have aS:=Lib.hid (HB.out.up bW);clear bW;go_wp2_with fail;refine (B0k tag _ body W aS.out (by omega)).mono ?_;rintro e W2 ⟨v2,rfl,aP,b2⟩;have aP:=Lib.hid aP;go_wp2_with fail;exact C5 (hQ' _ _ b2 aP.out.up (fun h=>by cases h)) (by kernel_rfl)
  case aM=>intro o ho us W hW hp Q' hQ';obtain rfl:=Option.some.inj ho;have aC:By W 0 W.heap.size (us 4) (Z3 tag body):=hp 0 _ rfl (by kernel_rfl);obtain⟨A4,n4,c4,aQ⟩:=aC.formE;rw[aQ]at aC;have aC:=Lib.hid aC;clear hp ho;rw[C2]at hQ' ⊢;dsimp only[E4,E0,List.foldl,zv,za,zs,zp,zb]at hQ' ⊢;simp only[List.set_cons_succ,List.set_cons_zero];rw[aQ]at hQ' ⊢;clear aQ;go_wp2_with fail;exact C5 (hQ' _ _ ((Below.refl _ _).alloc (Nat.le_refl _) _) ⟨_,rfl,(L6.one W _ _ (Z3 tag body) aC.out).more (by simp)⟩ (fun h=>by cases h)) (by kernel_rfl)
  case aN=>
   intro o ho us W hW hp Q' hQ';obtain rfl:=Option.some.inj ho;have aC:By W 0 W.heap.size (us 4) (Z3 tag body):=hp 0 _ rfl (by kernel_rfl);have aC:=Lib.hid aC;obtain⟨aI,aD,aE⟩:=hp 1 _ rfl (by kernel_rfl);have aD:us 5=.slice (some ⟨aI,0,none⟩) 1 1:=aD;have aE:L6 W W.heap.size (.slice (some ⟨aI,0,none⟩) 1 1) [(Z3 tag body)]:=by rw[←aD];exact aE
   have aE:=Lib.hid aE;clear hp ho;rw[C2]at hQ' ⊢;dsimp only[E4,E0,List.foldl,zv,za,zs,zp,zb]at hQ' ⊢;simp only[List.set_cons_succ,List.set_cons_zero];rw[aD]at hQ' ⊢;clear aD;have bW:=C0 B0 (C0 S1 hW S1.size) B0.size;have aS:=Lib.hid (HB.out.up bW);clear bW;go_wp2_with fail;refine (B4b key sig _ [(Z3 tag body)] hk hg W aE.out (by simp) (by simp) (D4i hbl)).mono ?_;rintro e W2 ⟨rfl,b2⟩;go_wp2_with fail;exact C5 (hQ' _ _ b2 rfl (fun h=>by cases h)) (by kernel_rfl)
  case aO=>
   intro o ho us W hW hp Q' hQ';obtain rfl:=Option.some.inj ho;have aC:By W 0 W.heap.size (us 4) (Z3 tag body):=hp 0 _ rfl (by kernel_rfl);have aC:=Lib.hid aC;obtain⟨aI,aD,aE⟩:=hp 1 _ rfl (by kernel_rfl);have aD:us 5=.slice (some ⟨aI,0,none⟩) 1 1:=aD;have aE:L6 W W.heap.size (.slice (some ⟨aI,0,none⟩) 1 1) [(Z3 tag body)]:=by rw[←aD];exact aE
   have aE:=Lib.hid aE;have aJ:us 6=(.bool (Cy key sig [(Z3 tag body)])):=hp 2 _ rfl (by kernel_rfl);clear hp ho;rw[C2]at hQ' ⊢;dsimp only[E4,E0,List.foldl,zv,za,zs,zp,zb]at hQ' ⊢;simp only[List.set_cons_succ,List.set_cons_zero];rw[aD,aJ]at hQ' ⊢;clear aD aJ;go_wp2_with fail;exact C5 (hQ' _ _ (Below.refl _ _) rfl (fun h=>by cases h)) (by kernel_rfl)
 case aH=>
 intro us W2 b3 hg aR aX;have aT:By W2 0 W2.heap.size (us 4) (Z3 tag body):=hg _ (List.mem_of_getElem? (i:=0) rfl);have aT:=Lib.hid aT;have aJ:us 6=(.bool (Cy key sig [(Z3 tag body)])):=hg _ (List.mem_of_getElem? (i:=2) rfl);have aU:us 7=(.bool (Cy key sig [(Z3 tag body)])):=hg _ (List.mem_of_getElem? (i:=3) rfl);have b4:=C0 S1 b3 S1.size;rw[C2];dsimp only[E0,List.foldl,zv,za,zs,zp,zb];simp only[List.set_cons_succ,List.set_cons_zero];rw[aJ,aU];clear hg aR aX aJ aU b3 S1;have B2:=C0 B0 b4 B0.size;have z2:=Nat.le_trans z0 b4.size;have aY:=aA.below b4 aA.lt;have aZ:=aB.below b4 aB.lt;clear b4 B0 z0 aA aB;refine I9 (by kernel_rfl) ?_;go_wp2_with fail;go_ret;exact ⟨rfl,B2⟩
def Fv (v:Int):UInt64:=UInt64.ofNat (v % 18446744073709551616).toNat
theorem A4a (v:Int):IntKind.u64.wrap v=J0 (Fv v):=by
 unfold J0 Fv;rw[UInt64.toNat_ofNat'];simp only[IntKind.wrap,IntKind.bits,IntKind.signed,Bool.false_and,Bool.false_eq_true,if_false];omega
def X7 (ver:Int) (key:List UInt8):List UInt8:=[U9 (Fv ver),key].flatten
theorem Vg (ver:Int) {key:List UInt8} (h:key.length=32):(X7 ver key).length=40:=by simp[X7,h]
theorem B0p (ver:Int) (key:List UInt8) (hk:key.length=32) (w:World):Calls Tryz.prog 44 #[.int .i64 ver,A8 key] w fun e w'=>∃u,e=.returned u∧By w' 0 w'.heap.size u (X7 ver key)∧Below w.heap.size w w':=by
 have aU:=A4a ver;obtain⟨W0,aJ⟩:∃z,z=(w.alloc (Obj.cells (c8 key).toArray 23)):=⟨_,rfl⟩;have hL:W0=Q5 w [(23,(c8 key))]:=aJ;have B0:Below w.heap.size w W0:=by rw[hL];exact J9 _ _
 have aB:Bk W0 (w.heap.size) 23 (c8 key):=by rw[hL];exact F9 _ w 0 _ _ rfl
 have z0:w.heap.size+1≤W0.heap.size:=by rw[hL,H9];simp
 have aV:W0.heap.size=w.heap.size+1:=by rw[hL,H9];rfl
 clear hL;go_enter Tryz.func44,Tryz.ntmps44;go_wp2_with fail;rw[←aJ];clear aJ aV;have S1:Below W0.heap.size W0 W0.drew:=(Below.refl _ _).drew;refine F2 (fun W=>True) (by kernel_rfl) ?_;refine C6 (A:=?aZ) [0,1,3] (by kernel_rfl) (by kernel_rfl) rfl (by kernel_rfl) (by kernel_rfl) trivial (h:=fun W hW=>?aW) (hr:=?bB);case aW=>
  simp only[pick,List.getElem?_cons_zero,List.getElem?_cons_succ];repeat (go_big_quiet_step (fail))
  refine wpQuiet_nil ?_;rfl
 refine N9 [zb 2 7 (U9 (Fv ver)),zs 4 9 2 [(U9 (Fv ver)),key],zb 5 10 (List.flatten [(U9 (Fv ver)),key]),zb 6 4 (List.flatten [(U9 (Fv ver)),key])] (by kernel_rfl) (fun W hW=>trivial) ?aE ?aF ?aG;case aE=>exact (List.forall_mem_cons.2 ⟨zb_mono _ _ _,(List.forall_mem_cons.2 ⟨zs_mono _ _ _ _,(List.forall_mem_cons.2 ⟨zb_mono _ _ _,(List.forall_mem_cons.2 ⟨zb_mono _ _ _,(fun _ h=>by cases h)⟩)⟩)⟩)⟩)
 case aF=>
  refine (List.forall_mem_cons.2 ⟨?aK,(List.forall_mem_cons.2 ⟨?aL,(List.forall_mem_cons.2 ⟨?aM,(List.forall_mem_cons.2 ⟨?aN,(fun _ h=>by cases h)⟩)⟩)⟩)⟩);case aK=>
   intro o ho us W hW hp Q' hQ';obtain rfl:=Option.some.inj ho;clear hp ho;rw[C2]at hQ' ⊢;dsimp only[E4,E0,List.foldl,zv,za,zs,zp,zb]at hQ' ⊢;simp only[List.set_cons_succ,List.set_cons_zero];go_wp2_with fail;refine (Ph (.slice none 0 0) [] (Fv ver) W (.inl ⟨rfl,rfl⟩) (by simp)).mono ?_;rintro e W2 ⟨v2,rfl,aA,b2⟩;have aA:=Lib.hid aA;go_wp2_with fail;exact C5 (hQ' _ _ b2 aA.out.up (fun h=>by cases h)) (by kernel_rfl)
  case aL=>intro o ho us W hW hp Q' hQ';obtain rfl:=Option.some.inj ho;have aA:By W 0 W.heap.size (us 2) (U9 (Fv ver)):=hp 0 _ rfl (by kernel_rfl);obtain⟨A2,n2,c2,aO⟩:=aA.formE;rw[aO]at aA;have aA:=Lib.hid aA;clear hp ho;rw[C2]at hQ' ⊢;dsimp only[E4,E0,List.foldl,zv,za,zs,zp,zb]at hQ' ⊢;simp only[List.set_cons_succ,List.set_cons_zero];rw[aO]at hQ' ⊢;clear aO;have aH:=aB.drew.below hW aB.drew.lt;go_wp2_with fail;exact C5 (hQ' _ _ ((Below.refl _ _).alloc (Nat.le_refl _) _) ⟨_,rfl,(L6.two W _ _ _ (U9 (Fv ver)) key aA.out (Bk.byAll (aH) hk (by decide))).more (by simp)⟩ (fun h=>by cases h)) (by kernel_rfl)
  case aM=>
   intro o ho us W hW hp Q' hQ';obtain rfl:=Option.some.inj ho;have aA:By W 0 W.heap.size (us 2) (U9 (Fv ver)):=hp 0 _ rfl (by kernel_rfl);have aA:=Lib.hid aA;obtain⟨aI,aC,aD⟩:=hp 1 _ rfl (by kernel_rfl);have aC:us 4=.slice (some ⟨aI,0,none⟩) 2 2:=aC;have aD:L6 W W.heap.size (.slice (some ⟨aI,0,none⟩) 2 2) [(U9 (Fv ver)),key]:=by rw[←aC];exact aD
   have aD:=Lib.hid aD;clear hp ho;rw[C2]at hQ' ⊢;dsimp only[E4,E0,List.foldl,zv,za,zs,zp,zb]at hQ' ⊢;simp only[List.set_cons_succ,List.set_cons_zero];rw[aC]at hQ' ⊢;clear aC;go_wp2_with fail;refine (B9h _ [(U9 (Fv ver)),key] W aD.out (by simp;omega)).mono ?_;rintro e W2 ⟨v2,rfl,aA,b2⟩;have aA:=Lib.hid aA;go_wp2_with fail;exact C5 (hQ' _ _ b2 aA.out.up (fun h=>by cases h)) (by kernel_rfl)
  case aN=>
   intro o ho us W hW hp Q' hQ';obtain rfl:=Option.some.inj ho;have aA:By W 0 W.heap.size (us 2) (U9 (Fv ver)):=hp 0 _ rfl (by kernel_rfl);have aA:=Lib.hid aA;obtain⟨aI,aC,aD⟩:=hp 1 _ rfl (by kernel_rfl);have aC:us 4=.slice (some ⟨aI,0,none⟩) 2 2:=aC;have aD:L6 W W.heap.size (.slice (some ⟨aI,0,none⟩) 2 2) [(U9 (Fv ver)),key]:=by rw[←aC];exact aD
   have aD:=Lib.hid aD;have aP:By W 0 W.heap.size (us 5) (List.flatten [(U9 (Fv ver)),key]):=hp 2 _ rfl (by kernel_rfl);have aP:=Lib.hid aP;clear hp ho;rw[C2]at hQ' ⊢;dsimp only[E4,E0,List.foldl,zv,za,zs,zp,zb]at hQ' ⊢;simp only[List.set_cons_succ,List.set_cons_zero];rw[aC]at hQ' ⊢;clear aC;go_wp2_with fail;exact C5 (hQ' _ _ (Below.refl _ _) aP.out (fun h=>by cases h)) (by kernel_rfl)
 case aG=>
 intro us W2 b3 hg aQ aX;have aS:By W2 0 W2.heap.size (us 2) (U9 (Fv ver)):=hg _ (List.mem_of_getElem? (i:=0) rfl);have aS:=Lib.hid aS;have aT:By W2 0 W2.heap.size (us 5) (List.flatten [(U9 (Fv ver)),key]):=hg _ (List.mem_of_getElem? (i:=2) rfl);have aT:=Lib.hid aT;have aR:By W2 0 W2.heap.size (us 6) (List.flatten [(U9 (Fv ver)),key]):=hg _ (List.mem_of_getElem? (i:=3) rfl);have aR:=Lib.hid aR;have b4:=C0 S1 b3 S1.size;rw[C2];dsimp only[E0,List.foldl,zv,za,zs,zp,zb];simp only[List.set_cons_succ,List.set_cons_zero];clear hg aQ aX  b3 S1;have B2:=C0 B0 b4 B0.size;have z2:=Nat.le_trans z0 b4.size;have aY:=aB.below b4 aB.lt;clear b4 B0 z0 aB;refine I9 (by kernel_rfl) ?_;go_wp2_with fail;go_ret;exact ⟨_,rfl,aR.out,B2⟩
section
structure UV where
 id:List UInt8
 ver:Int
 key:List UInt8
 sig:List UInt8
structure UV.Ok (u : UV) : Prop where
 id:u.id.length=32
 key:u.key.length=32
 sig:u.sig.length=64
def Aw (u:UV):List Value:=c8 u.id++(.int .i64 u.ver::(c8 u.key++c8 u.sig))
def UV.length (u:UV):Nat:=(Aw u).length
def Uc (u:UV):Value:=.agg (Aw u).toArray
def Rg (_:Nat):UV:=⟨z8 32,0,z8 32,z8 64⟩
theorem UV.Ok.len {u:UV} (h:u.Ok):u.length=129:=by unfold UV.length Aw;simp[h.id,h.key,h.sig]
theorem Ku (n:Nat):(Rg n).Ok:=⟨by simp[Rg],by simp[Rg],by simp[Rg]⟩
theorem Dj (u:UV):(Aw u).length=u.length:=rfl
theorem Nc (u:UV):∀x∈Aw u,x.oneCell'=true:=by
 intro x hx;simp only[Aw,List.mem_append,List.mem_cons]at hx;rcases hx with hx | rfl | hx | hx
 ·obtain⟨y,_,rfl⟩:=List.mem_map.1 hx;rfl
 ·rfl
 ·obtain⟨y,_,rfl⟩:=List.mem_map.1 hx;rfl
 ·obtain⟨y,_,rfl⟩:=List.mem_map.1 hx;rfl
theorem A6m:(Tryz.prog.info? 63).map (·.size)=some 129:=by kernel_rfl
theorem B7u:((Tryz.prog.info? 63).bind (·.zero))=some (Uc (Rg 129)):=by kernel_rfl
theorem Vt:Tryz.prog.underlying 63=some (.struct (Q0 Tryz.prog 63)):=by kernel_rfl
@[go_sem] theorem F1i (u : UV) : Value.agg (Aw u).toArray = Uc u := rfl
@[go_sem] theorem E7d (t : TypeId) (w : World) (raw : Result Next) (u : UV) : Ue t w raw (Uc u) = .ok (.value (.pointer (some ⟨w.heap.size, 0, none⟩))) (w.alloc (.cells (Aw u).toArray t)) := rfl
@[go_sem] theorem D8p (n : Nat) (w : World) (raw : Result Next) (a : Addr) (u : UV) : Bq n w raw (.pointer (some a)) (Uc u) =
 if u.length=n∧E8 w a n=true then .ok .skip (C9 w a (Aw u)) else raw:=by
 have h1:((Aw u).toArray.all (·.oneCell'))=true:=by rw[Array.all_eq_true'];intro x hx;exact Nc u x (by simpa using hx)
 unfold Uc;rw[A2r,h1];simp only[List.size_toArray,true_and,Dj]
section
variable (w : World) (ρ : Operand → Value) (dst : Option Tmp) (ty : TypeId) (pos : String) (after : Array Edge) (guard : Option (Nat × Bool))
@[go_sem ↓ high] theorem E8g:RL' 63 129:=LL' Vt A6m
@[go_sem ↓ high] theorem E5e:RS' 63 129:=SS' A6m
@[go_sem ↓ high] theorem E4m:RA' 63 (Aw (Rg 129)).toArray:=fun w ρ dst ty pos after guard=>N8 w ρ dst ty pos after guard 63 (Uc (Rg 129)) B7u
@[go_sem ↓ high] theorem F1y:RB' 63:=BX' _
end
theorem B9p (w:World):(Ee (Q0 Tryz.prog 63)).run Tryz.prog w=.ok #[(0,32),(32,1),(33,32),(65,64)] w:=by kernel_rfl
noncomputable def D2b (w:World) (raw:Result Next) (a b c d:Value):Result Next:=match Cf a,b,Cf c,Cf d with
 | some i,.int .i64 v,some k,some s=>if i.length=32∧k.length=32∧s.length=64 then .ok (.value (Uc ⟨i,v,k,s⟩)) w else raw
 | _,_,_,_=>raw
@[go_sem] theorem E8y (w : World) (raw : Result Next) (i k s : List UInt8) (v : Int) (hi : i.length = 32) (hk : k.length = 32) (hs : s.length = 64) : D2b w raw (A8 i) (.int .i64 v) (A8 k) (A8 s) = .ok (.value (Uc ⟨i, v, k, s⟩)) w := by
 unfold D2b;simp only[Cw];simp[hi,hk,hs]
theorem D7p (i k s:List UInt8) (v:Int) (hi:i.length=32) (hk:k.length=32) (hs:s.length=64) (w:World):(Instr.build 63 #[(0,A8 i),(1,.int .i64 v),(2,A8 k),(3,A8 s)]).run Tryz.prog w=.ok (Uc ⟨i,v,k,s⟩) w:=by
 have aA:(Uc (Rg 129)).cells.toList=c8 (z8 32)++(.int .i64 0::(c8 (z8 32)++c8 (z8 64))):=rfl;have h1:=Q9 Vt B7u w (B9p w) #[(0,A8 i),(1,.int .i64 v),(2,A8 k),(3,A8 s)] [(0,c8 i),(32,[.int .i64 v]),(33,c8 k),(65,c8 s)] (by
  rw[aA];exact ⟨by simp[hi],rfl,by simp[hi],by simp,rfl,by simp,by simp[hk],rfl,by simp[hk],by simp[hs],rfl,by simp[hs],trivial⟩)
 refine h1.trans (congrArg (fun (cs:List Value)=>Result.ok (Value.agg cs.toArray) w) ?_);rw[aA];simp[Fg,Z0,hi,hk,hs,List.take_append,List.drop_append,List.drop_eq_nil_of_le,List.take_of_length_le,Aw,c8]
@[go_sem ↓ high] theorem E4k (w : World) (ρ : Operand → Value) (dst : Option Tmp) (ty : TypeId) (pos : String) (after : Array Edge) (guard : Option (Nat × Bool)) (x y z t : Operand) :
 (execOp ρ { dst,op:=.build 63 #[(0,x),(1,y),(2,z),(3,t)],type:=ty,pos,after,guard }).run Tryz.prog w=D2b w (M6 Tryz.prog ρ { dst,op:=.build 63 #[(0,x),(1,y),(2,z),(3,t)],type:=ty,pos,after,guard } w) (ρ x) (ρ y) (ρ z) (ρ t):=by
 generalize h0:ρ x=a;generalize h1:ρ y=b;generalize h2:ρ z=c;generalize h3:ρ t=d;unfold D2b;split
 ·rename_i i v k s g0 g1 g2
  replace g0:=T5 g0;replace g1:=T5 g1;replace g2:=T5 g2;split
  ·rename_i h
   refine N7 w ρ dst ty pos after guard _ _ _ ?_;simp only[List.map_toArray,List.map_cons,List.map_nil,h0,h1,h2,h3,g0,g1,g2];exact D7p i k s v h.1 h.2.1 h.2.2 w
  ·rfl
 ·rfl
section
variable {w : World} {g : Nat} {t : TypeId} {u m : UV} {n : Nat}
theorem Bk.rowvc (K:Bk w g t (Aw u)) (hu:u.length=n):E5 w ⟨g,0,none⟩ n=some (Aw u):=by have:=K.rows;rwa [Dj,hu]at this
theorem Bk.canvc (K:Bk w g t (Aw u)) (hu:u.length=n):E8 w ⟨g,0,none⟩ n=true:=K.can (by rw[Dj,hu];omega)
theorem Bk.putvc (K:Bk w g t (Aw u)) (hu:u.length=n) (hm:m.length=n):Bk (C9 w ⟨g,0,none⟩ (Aw m)) g t (Aw m):=K.puts (by rw[Dj,Dj,hu,hm])
theorem UV.loadid (K:Bk w g t (Aw u)) (h:u.Ok):E5 w ⟨g,0,none⟩ 32=some (c8 u.id):=by
 rw[K.rowMid 0 32 (by rw[Dj,h.len];decide)];simp[Aw,h.id]
theorem UV.loadver (K:Bk w g t (Aw u)) (h:u.Ok):w.cell? ⟨g,32,none⟩=some (.int .i64 u.ver):=by
 refine K.at_ ?_;simp[Aw,h.id]
theorem UV.loadkey (K:Bk w g t (Aw u)) (h:u.Ok):E5 w ⟨g,33,none⟩ 32=some (c8 u.key):=by
 rw[K.rowMid 33 32 (by rw[Dj,h.len];decide)];simp[Aw,h.id,h.key,List.drop_append,List.drop_eq_nil_of_le]
theorem UV.loadsig (K:Bk w g t (Aw u)) (h:u.Ok):E5 w ⟨g,65,none⟩ 64=some (c8 u.sig):=by
 rw[K.rowMid 65 64 (by rw[Dj,h.len];decide)];simp[Aw,h.id,h.key,h.sig,List.drop_append,List.drop_eq_nil_of_le,List.take_of_length_le]
end
end
theorem By.same {w:World} {lo B:Nat} {v:Value} {l:List UInt8} (h:By w lo B v l):By w lo B v l:=h
theorem C0e (seed:List UInt8) (bv:Value) (body:List UInt8) (hs:seed.length=32) (w:World) (hb:By w 0 w.heap.size bv body) (hbl:body.length≤1000000):Calls Tryz.prog 43 #[A8 seed,.int .u8 1,bv] w fun e w'=>e=.returned (A8 (Gn seed 1 body))∧Below w.heap.size w w':=C4w seed 1 bv body hs w hb hbl
theorem B3t (key:List UInt8) (bv:Value) (body sig:List UInt8) (hk:key.length=32) (hg:sig.length=64) (w:World) (hb:By w 0 w.heap.size bv body) (hbl:body.length≤1000000):Calls Tryz.prog 50 #[A8 key,.int .u8 1,bv,A8 sig] w fun e w'=>e=.returned (.bool (Ff key 1 body sig))∧Below w.heap.size w w':=C0s key 1 bv body sig hk hg w hb hbl
noncomputable def mkU (seed:List UInt8) (ver:Int) (key:List UInt8):UV:=⟨U7 seed,ver,key,Gn seed 1 (X7 ver key)⟩
theorem C3g (seed:List UInt8) (ver:Int) {key:List UInt8} (hk:key.length=32):(mkU seed ver key).Ok:=⟨Eb _,hk,Ga _ _ _⟩
theorem B1l (seed:List UInt8) (ver:Int) (key:List UInt8) (hs:seed.length=32) (hk:key.length=32) (w:World):Calls Tryz.prog 18 #[A8 seed,.int .i64 ver,A8 key] w fun e w'=>e=.returned (Uc (mkU seed ver key))∧Below w.heap.size w w':=by
 obtain⟨W0,aO⟩:∃z,z=(((w.alloc (Obj.cells (c8 seed).toArray 23)).alloc (Obj.cells (c8 key).toArray 23)).alloc (Obj.cells (Aw (Rg 129)).toArray 63)):=⟨_,rfl⟩;have hL:W0=Q5 w [(23,(c8 seed)),(23,(c8 key)),(63,(Aw (Rg 129)))]:=aO;have B0:Below w.heap.size w W0:=by rw[hL];exact J9 _ _
 have aA:Bk W0 (w.heap.size) 23 (c8 seed):=by rw[hL];exact F9 _ w 0 _ _ rfl
 have aB:Bk W0 (w.heap.size+1) 23 (c8 key):=by rw[hL];exact F9 _ w 1 _ _ rfl
 have aD:Bk W0 (w.heap.size+2) 63 (Aw (Rg 129)):=by rw[hL];exact F9 _ w 2 _ _ rfl
 have z0:w.heap.size+3≤W0.heap.size:=by rw[hL,H9];simp
 have bD:W0.heap.size=w.heap.size+3:=by rw[hL,H9];rfl
 clear hL;go_enter Tryz.func18,Tryz.ntmps18;go_wp2_with fail;rw[←aO];clear aO bD;have S1:Below W0.heap.size W0 W0.drew:=(Below.refl _ _).drew;refine F2 (fun W=>Bk W (w.heap.size) 23 (c8 seed)∧Bk W (w.heap.size+1) 23 (c8 key)) (by kernel_rfl) ?_;refine C6 (A:=?bG) [0,2,3,4,5,6] (by kernel_rfl) (by kernel_rfl) rfl (by kernel_rfl) (by kernel_rfl) ⟨(aA.drew),(aB.drew)⟩ (h:=fun W hW=>?bE) (hr:=?bH);case bE=>
  have f0:=Bk.row8 (n:=32) (hW.1) (hs);have f3:=Bk.row8 (n:=32) (hW.2) (hk);simp only[pick,List.getElem?_cons_zero,List.getElem?_cons_succ];repeat (go_big_quiet_step (fail))
  refine wpQuiet_nil ?_;rfl
 refine N9 [zv 1 8 (A8 (U7 seed)),zb 7 14 (X7 ver key),zv 8 15 (A8 (Gn seed 1 (X7 ver key))),zv 9 16 (Uc (⟨(U7 seed),ver,key,(Gn seed 1 (X7 ver key))⟩:UV))] (by kernel_rfl) (fun W hW=>⟨(aA.drew.below hW aA.drew.lt),(aB.drew.below hW aB.drew.lt)⟩) ?aG ?aH ?aI;case aG=>exact (List.forall_mem_cons.2 ⟨H7 _ _ _,(List.forall_mem_cons.2 ⟨zb_mono _ _ _,(List.forall_mem_cons.2 ⟨H7 _ _ _,(List.forall_mem_cons.2 ⟨H7 _ _ _,(fun _ h=>by cases h)⟩)⟩)⟩)⟩)
 case aH=>
  refine (List.forall_mem_cons.2 ⟨?aP,(List.forall_mem_cons.2 ⟨?aQ,(List.forall_mem_cons.2 ⟨?aR,(List.forall_mem_cons.2 ⟨?aS,(fun _ h=>by cases h)⟩)⟩)⟩)⟩);case aP=>
   intro o ho us W hW hp Q' hQ';obtain rfl:=Option.some.inj ho;clear hp ho;rw[C2]at hQ' ⊢;dsimp only[E4,E0,List.foldl,zv,za,zs,zp,zb]at hQ' ⊢;simp only[List.set_cons_succ,List.set_cons_zero];go_wp2_with fail;refine (B3w seed hs W).mono ?_;rintro e W2 ⟨rfl,b2⟩;go_wp2_with fail;exact C5 (hQ' _ _ b2 rfl (fun h=>by cases h)) (by kernel_rfl)
  case aQ=>intro o ho us W hW hp Q' hQ';obtain rfl:=Option.some.inj ho;have aC:us 1=(A8 (U7 seed)):=hp 0 _ rfl (by kernel_rfl);clear hp ho;rw[C2]at hQ' ⊢;dsimp only[E4,E0,List.foldl,zv,za,zs,zp,zb]at hQ' ⊢;simp only[List.set_cons_succ,List.set_cons_zero];rw[aC]at hQ' ⊢;clear aC;go_wp2_with fail;refine (B0p ver key hk W).mono ?_;rintro e W2 ⟨v2,rfl,aT,b2⟩;have aT:=Lib.hid aT;go_wp2_with fail;exact C5 (hQ' _ _ b2 aT.out.same (fun h=>by cases h)) (by kernel_rfl)
  case aR=>intro o ho us W hW hp Q' hQ';obtain rfl:=Option.some.inj ho;have aU:By W 0 W.heap.size (us 7) (X7 ver key):=hp 1 _ rfl (by kernel_rfl);have aU:=Lib.hid aU;clear hp ho;rw[C2]at hQ' ⊢;dsimp only[E4,E0,List.foldl,zv,za,zs,zp,zb]at hQ' ⊢;simp only[List.set_cons_succ,List.set_cons_zero];go_wp2_with fail;refine (C0e seed _ (X7 ver key) hs W aU.out (by rw[Vg ver hk];decide)).mono ?_;rintro e W2 ⟨rfl,b2⟩;go_wp2_with fail;exact C5 (hQ' _ _ b2 rfl (fun h=>by cases h)) (by kernel_rfl)
  case aS=>intro o ho us W hW hp Q' hQ';obtain rfl:=Option.some.inj ho;have aC:us 1=(A8 (U7 seed)):=hp 0 _ rfl (by kernel_rfl);have aJ:us 8=(A8 (Gn seed 1 (X7 ver key))):=hp 2 _ rfl (by kernel_rfl);clear hp ho;rw[C2]at hQ' ⊢;dsimp only[E4,E0,List.foldl,zv,za,zs,zp,zb]at hQ' ⊢;simp only[List.set_cons_succ,List.set_cons_zero];rw[aC,aJ]at hQ' ⊢;clear aC aJ;have c0:(U7 seed).length=32:=(Eb seed);have c2:key.length=32:=hk;have c3:(Gn seed 1 (X7 ver key)).length=64:=(Ga seed 1 (X7 ver key));go_wp2_with fail;exact C5 (hQ' _ _ (Below.refl _ _) rfl (fun h=>by cases h)) (by kernel_rfl)
 case aI=>
 intro us W2 b3 hg aV bF;have aC:us 1=(A8 (U7 seed)):=hg _ (List.mem_of_getElem? (i:=0) rfl);have bB:By W2 0 W2.heap.size (us 7) (X7 ver key):=hg _ (List.mem_of_getElem? (i:=1) rfl);have bB:=Lib.hid bB;have aJ:us 8=(A8 (Gn seed 1 (X7 ver key))):=hg _ (List.mem_of_getElem? (i:=2) rfl);have bC:us 9=(Uc (⟨(U7 seed),ver,key,(Gn seed 1 (X7 ver key))⟩:UV)):=hg _ (List.mem_of_getElem? (i:=3) rfl);have b4:=C0 S1 b3 S1.size;rw[C2];dsimp only[E0,List.foldl,zv,za,zs,zp,zb];simp only[List.set_cons_succ,List.set_cons_zero];rw[aC,aJ,bC];clear hg aV bF aC aJ bC b3 S1;have B2:=C0 B0 b4 B0.size;have z2:=Nat.le_trans z0 b4.size;have aK:=aA.below b4 aA.lt;have aL:=aB.below b4 aB.lt;have aE:=aD.below b4 aD.lt;clear b4 B0 z0 aA aB aD;obtain⟨W5,aF⟩:∃z,z=C9 W2 ⟨w.heap.size+2,0,none⟩ (Aw (⟨(U7 seed),ver,key,(Gn seed 1 (X7 ver key))⟩:UV)):=⟨_,rfl⟩;have aW:Bk W5 (w.heap.size+2) 63 (Aw (⟨(U7 seed),ver,key,(Gn seed 1 (X7 ver key))⟩:UV)):=by rw[aF];exact Bk.putvc (aE) (((Ku 129).len)) (((⟨(Eb seed),hk,(Ga seed 1 (X7 ver key))⟩:UV.Ok (⟨(U7 seed),ver,key,(Gn seed 1 (X7 ver key))⟩:UV)).len))
 have aX:Bk W5 (w.heap.size) 23 (c8 seed):=by rw[aF];exact aK.putFar (p:=⟨w.heap.size+2,0,none⟩) (by show w.heap.size≠w.heap.size+2;omega) _
 have aY:Bk W5 (w.heap.size+1) 23 (c8 key):=by rw[aF];exact aL.putFar (p:=⟨w.heap.size+2,0,none⟩) (by show w.heap.size+1≠w.heap.size+2;omega) _
 have B5:Below w.heap.size w W5:=by rw[aF];exact C1 B2 (by show w.heap.size≤w.heap.size+2;omega) _
 have aM:E8 W2 ⟨w.heap.size+2,0,none⟩ 129=true:=Bk.canvc (aE) (((Ku 129).len));have aN:(⟨(U7 seed),ver,key,(Gn seed 1 (X7 ver key))⟩:UV).length=129:=((⟨(Eb seed),hk,(Ga seed 1 (X7 ver key))⟩:UV.Ok (⟨(U7 seed),ver,key,(Gn seed 1 (X7 ver key))⟩:UV)).len);refine C4 10 (by kernel_rfl) (by rfl) (by rfl) (fun Q' hQ'=>?_);dsimp only[E4];go_wp2_with fail;rw[←aF];refine hQ' _ _ ⟨aX,aY⟩ ?_;clear hQ' aM aN;have z5:w.heap.size+3≤W5.heap.size:=by have hz:=z2;rw[aF];simp;omega
 clear aF B2 z2 aK aL aE;refine I9 (by kernel_rfl) ?_;go_wp2_with fail;have aZ:(⟨(U7 seed),ver,key,(Gn seed 1 (X7 ver key))⟩:UV).length=129:=((⟨(Eb seed),hk,(Ga seed 1 (X7 ver key))⟩:UV.Ok (⟨(U7 seed),ver,key,(Gn seed 1 (X7 ver key))⟩:UV)).len);refine bodyPost_ret (E9 rfl _ _ _ _ _ _ rfl aW Vt rfl (by simp[A6m,aZ,Dj])) rfl ⟨rfl,B5⟩
end Go.Proofs.YtlegpkdighoflaaGreat
