/- A part of the proof of ClientForks. -/
import Derived.Test.YtdfpoofbgjilgaaGreatVbj
import Derived.Test.YtdfpoofbgjilgaaGreatVbk
set_option linter.unusedVariables false
set_option linter.unusedSimpArgs false
set_option maxRecDepth 100000
set_option maxHeartbeats 40000000
namespace Go.Proofs.YtdfpoofbgjilgaaGreat
open Go Go.RowKit Sh
theorem Hs.takes {w:World} {lo B:Nat} {A:Option Addr} {n c:Nat} {l:List (List UInt8)} (h:Hs w lo B (.slice A n c) l) {k:Nat} (hk:k≤n):Hs w lo B (.slice A k c) (l.take k):=by
 obtain⟨h0,A',c',hv,h1,h2,h3⟩:=h;injection hv with e1 e2 e3;subst e1 e2 e3;have e:(l.take k).length=k:=by simp;omega
 refine ⟨fun x hx=>h0 x (List.mem_of_mem_take hx),A,c,by rw[e],by omega,h2,?_⟩;have hf:(l.take k).flatten=l.flatten.take (k*32):=by
  have hl:=T6 (l:=l.take k) fun x hx=>h0 x (List.mem_of_mem_take hx);rw[e]at hl;have h4:l.flatten=(l.take k).flatten++(l.drop k).flatten:=by rw[←List.flatten_append,List.take_append_drop]
  rw[h4,←hl,List.take_left]
 rw[hf];have:=h3.take (k*32);simpa [c8,List.map_take] using this
theorem C6q (v:Value) (K:List (List UInt8)) (q:Nat) (hq:q=K.length) (hn:q=1∨q=4∨q=7) (w:World) (hv:Hs w 0 w.heap.size v K) :
 Calls Tryz.prog 29 #[v] w fun x w'=>((x=.returned (.tuple #[.pointer none,.int .i64 2])∧q≠1)∨∃rb mb A c,x=.returned (.tuple #[.pointer (some ⟨rb,0,none⟩),.int .i64 0])∧w.heap.size≤rb∧w.heap.size≤mb∧Rg w' rb mb A q c K)∧Below w.heap.size w w':=by
 have HA:=Lib.hid hv;obtain⟨A,c,rfl,aO,aW⟩:=hv.form;rw[←hq]at HA aO ⊢;have HQ:=Lib.hid hq;have aP:q≤7:=by omega
 have aX:0<q:=by omega
 have hr:((q:Int) % 3 != 1)=false:=by rcases hn with rfl | rfl | rfl<;>rfl
 have aY:decide ((7:Int)<(q:Int))=false:=decide_eq_false (by omega);have aQ:decide (7<q)=false:=decide_eq_false (by omega);have HN:=Lib.hid hn;clear hq hn hv;have aZ:=@run_makeMap Tryz.prog;go_enter Tryz.func29,Tryz.ntmps29;go_wp2_with fail;go_loopw [5,6,18] (fun _ _ jv wr=>∃i:Nat,jv=.int .i64 (i:Int)∧i≤q∧Below w.heap.size w wr) (fun _ _ jv _=>q-(intOf jv).toNat)
 case atStart=>exact ⟨0,rfl,by omega,Below.refl _ _⟩
 case round=>
  obtain⟨i,rfl,hi,b⟩:=hrel;by_cases hlt:i<q
  ·have hd:decide ((i:Int)<(q:Int))=true:=decide_eq_true (by omega);have aR:decide (i<q)=true:=decide_eq_true hlt;obtain⟨k,hk⟩:∃k,K[i]?=some k:=⟨_,List.getElem?_eq_getElem (by rw[←HQ.out];exact hlt)⟩;obtain⟨g,o,rfl,hg,aS⟩:=HA.out.at_ hk;have aC:k.length=32:=HA.out.1 k (List.mem_of_getElem? hk);have aD:=(Bv (a:=⟨g,o+i*32,none⟩) b hg).trans aS;have aE:E7 (wr.alloc (Obj.cells (c8 (z8 32)).toArray 35)) ⟨wr.heap.size,0,none⟩ 32=true:=(Bk.new wr _ _).can (by simp);obtain⟨we,aA⟩:∃y,y=C4 (wr.alloc (Obj.cells (c8 (z8 32)).toArray 35)) ⟨wr.heap.size,0,none⟩ (c8 k):=⟨_,rfl⟩;have kg:Bk we wr.heap.size 35 (c8 k):=by rw[aA];exact (Bk.new wr _ _).puts (by simp[aC])
   have be:Below wr.heap.size wr we:=by rw[aA];exact C0 ((Below.refl _ _).alloc (Nat.le_refl _) _) (Nat.le_refl _) _
   have aF:=C1 b be b.size;have bA:i≤c:=by omega
   clear hk;go_wp2_with fail;rw[←aA];have b1:Below we.heap.size we we.drew:=(Below.refl _ _).drew;have bd:=C1 aF b1 aF.size;have kd:=kg.drew;have HS:=Lib.hid (((HA.out.takes (by omega:i≤q)).below bd).more bd.size);clear aA aE aD b1 kg aF be;refine E3 (fun W=>Bk W wr.heap.size 35 (c8 k)∧Below w.heap.size w W) (by kernel_rfl) ?_;refine C5 (A:=?Ai) [0,1,2,3] (by kernel_rfl) (by kernel_rfl) rfl (by kernel_rfl) (by kernel_rfl) ⟨kd,bd⟩ (h:=fun W hW=>?aT) (hr:=?bB);case aT=>
    have f1:=hW.1.row8 aC;simp only[pick,List.getElem?_cons_zero,List.getElem?_cons_succ];repeat (go_big_quiet_step (fail))
    refine wpQuiet_nil ?_;rfl
   refine C3 4 (by kernel_rfl) (by rfl) (by rfl) (fun Q' hQ'=>?_);dsimp only[E5];have aI:=Lib.hid hQ';clear hQ';go_wp2_with fail;refine (A3g _ (K.take i) k aC _ HS.out).mono ?_;rintro x w5 ⟨z,rfl,aG,b5⟩;have aH:=C1 bd b5 bd.size;have aU:=kd.below b5 kd.lt;clear b5 kd bd HS;go_wp2_with fail;refine aI.out _ _ ⟨aU,aH⟩ ?_;clear aI;refine F0 (by kernel_rfl) ?_;cases z with
   | true=>
    have aV:q≠1:=fun h=>by
     obtain rfl:i=0:=by omega
     exact absurd (aG (by simp)) (by decide)
    clear aG;go_wp2_with fail;go_ret2
    exact ⟨.inl ⟨rfl,aV⟩,aH⟩
   | false=>
    clear aG;go_wp2_with fail;go_roundw;case rel=>exact ⟨i+1,by simp,by omega,aH⟩
    case measure=>simp[intOf];omega
  ·have hd:decide ((i:Int)<(q:Int))=false:=decide_eq_false (by omega);have aR:decide (i<q)=false:=decide_eq_false hlt;go_wp2_with fail;refine (Jv _ K wr ((HA.out.below b).more b.size) (by rw[←HQ.out];omega) (by rw[←HQ.out];omega)).mono ?_;rintro x w1 ⟨g,aJ,tl,rfl,hg,aK,aL,aM,b1⟩;rw[←HQ.out];have B1:=C1 b b1 b.size;obtain⟨w2,aB⟩:∃y,y=w1.alloc (.map #[] 0):=⟨_,rfl⟩;have b2:Below w1.heap.size w1 w2:=by rw[aB];exact (Below.refl _ _).alloc (Nat.le_refl _) _
   have s2:w2.heap.size=w1.heap.size+1:=by rw[aB];simp
   have S2:=Lib.hid s2;clear s2;have m2:RgM w2 w1.heap.size K:=by rw[aB];exact RgM.made w1 K
   have aN:=Hs.of_del aK (Nat.le_refl _) aL aM;rw[List.take_length,←HQ.out]at aN;have B2:=C1 B1 b2 B1.size;have z1:=B1.size;have z2:=B2.size;clear aK aL aM b1 hg;go_wp2_with fail;rw[←aB];go_ret2
   have b3:Below w2.heap.size w2 (w2.alloc (Obj.cells #[.slice (some ⟨g,0,none⟩) q aJ,.map (some w1.heap.size)] 166)):=(Below.refl _ _).alloc (Nat.le_refl _) _;have k3:=Bk.new w2 166 [.slice (some ⟨g,0,none⟩) q aJ,.map (some w1.heap.size)];have z3:w.heap.size≤w1.heap.size+1:=by omega
   rw[S2.out]at k3;refine ⟨.inr ⟨w1.heap.size+1,w1.heap.size,_,_,rfl,z3,z1,k3,(((aN.below b2).more b2.size).below b3).more b3.size,m2.below b3,HQ.out.symm,aP⟩,C1 B2 b3 B2.size⟩
theorem E8k {k:Nat} (h:k<256):IntKind.u8.wrap (k:Int)=n8 (UInt8.ofNat k):=by
 rw[Ke];unfold Co n8;rw[UInt8.toNat_ofNat',UInt8.toNat_ofNat'];omega
theorem Rg.ne {w:World} {rb mb q c:Nat} {A:Option Addr} {K:List (List UInt8)} (h:Rg w rb mb A q c K):rb≠mb:=fun e=>by
 obtain⟨o,ho,hn⟩:=h.mp.notCells mb rfl;have h1:=h.bk;unfold Bk at h1;rw[e,ho]at h1;injection h1 with h1;rw[h1]at hn;cases hn
theorem Rg.grow {w w':World} {rb mb q c:Nat} {A:Option Addr} {K:List (List UInt8)} (h:Rg w rb mb A q c K) (hg:w.grownBy w' (some mb)) (hm:RgM w' mb K):Rg w' rb mb A q c K:=by
 refine ⟨h.bk.grown hg (fun e=>by injection e with e;exact h.ne e),?_,hm,h.len,h.small⟩;obtain⟨h0,A',c',e,h1,h2,h3⟩:=h.hs;exact Hs.more ⟨h0,A',c',e,h1,h2,Fp h3 hg h.mp.notCells⟩ hg.size
theorem C3x {w:World} {rb mb q c:Nat} {A:Option Addr} {K:List (List UInt8)} (h:Rg w rb mb A q c K) (i:Nat) (hi:i<q) (tag:UInt8) (bv:Value) (body sig:List UInt8) (hb:By w 0 w.heap.size bv body) (hbl:body.length≤1000000) (hsg:sig.length=64) :
 Calls Tryz.prog 82 #[.pointer (some ⟨rb,0,none⟩),.int .i64 (i:Int),.int .u8 (n8 tag),bv,A8 sig] w fun x w'=>x=.returned (.bool (Jf K i tag body sig))∧w.grownBy w' (some mb)∧Rg w' rb mb A q c K:=by
 have bH:=h.small;obtain⟨bb,aM⟩:∃bb,Jf K i tag body sig=bb:=⟨_,rfl⟩;rw[aM];have aQ:=Lib.hid aM;clear aM;have aZ:=hb;obtain⟨Ab,cb,rfl,-⟩:=aZ;rw[List.length_map]at hb ⊢;obtain⟨bn,aN⟩:∃y,y=body.length:=⟨_,rfl⟩;rw[←aN]at hb hbl ⊢;have aI:=Lib.hid aN;clear aN;obtain⟨W0,aJ⟩:∃z,z=w.alloc (Obj.cells (c8 sig).toArray 46):=⟨_,rfl⟩;have kS:Bk W0 w.heap.size 46 (c8 sig):=by rw[aJ];exact Bk.new w _ _
 have B0:Below w.heap.size w W0:=by rw[aJ];exact (Below.refl _ _).alloc (Nat.le_refl _) _
 have h0:=h.up B0;have hd:decide ((i:Int)<0)=false:=decide_eq_false (by omega);have bI:decide ((q:Int)≤(i:Int))=false:=decide_eq_false (by omega);have bJ:decide (q≤i)=false:=decide_eq_false (by omega);have bK:=E8k (k:=i) (by omega);go_enter Tryz.func82,Tryz.ntmps82;go_wp2_with fail;rw[←aJ];clear aJ;refine (C7v h0).mono ?_;rintro x w1 ⟨rfl,b1⟩;have h1:=h0.up b1;have aO:=kS.below b1 kS.lt;have B1:=C1 B0 b1 B0.size;clear h0 kS B0 b1;go_wp2_with fail;obtain⟨W3,aG⟩:∃z,z=(w1.alloc (Obj.cells #[.int .u8 (n8 (UInt8.ofNat i)),.int .u8 (n8 tag)] 5)).alloc (Obj.cells #[.slice (some ⟨w1.heap.size,0,none⟩) 2 2,.slice (some ⟨w.heap.size,0,none⟩) 64 64,.slice Ab bn cb] 29):=⟨_,rfl⟩;have kI:Bk W3 w1.heap.size 5 (c8 [UInt8.ofNat i,tag]):=by rw[aG];exact (Bk.new w1 5 (c8 [UInt8.ofNat i,tag])).alloc _
 have kP:Bk W3 (w1.heap.size+1) 29 [.slice (some ⟨w1.heap.size,0,none⟩) 2 2,.slice (some ⟨w.heap.size,0,none⟩) 64 64,.slice Ab bn cb]:=by rw[aG];have:=Bk.new (w1.alloc (Obj.cells #[.int .u8 (n8 (UInt8.ofNat i)),.int .u8 (n8 tag)] 5)) 29 [.slice (some ⟨w1.heap.size,0,none⟩) 2 2,.slice (some ⟨w.heap.size,0,none⟩) 64 64,.slice Ab bn cb];simpa using this
 have b3:Below w1.heap.size w1 W3:=by rw[aG];exact ((Below.refl _ _).alloc (Nat.le_refl _) _).alloc (by simp) _
 have h3:=h1.up b3;have aK:=aO.below b3 aO.lt;have B3:=C1 B1 b3 B1.size;have aR:By W3 0 W3.heap.size (.slice Ab bn cb) body:=(hb.below B3).more B3.size;have hp:J9 W3 W3.heap.size (.slice (some ⟨w1.heap.size+1,0,none⟩) 3 3) [[UInt8.ofNat i,tag],sig,body]:=by
  refine ⟨_,Bk.sl kP rfl (by decide),rfl,fun j x l hx hl=>?_⟩;match j,hx,hl with
  | 0,hx,hl=>
   simp only[List.getElem?_cons_zero,Option.some.injEq]at hx hl;subst hx hl;exact Bk.byAll kI rfl (by decide)
  | 1,hx,hl=>
   simp only[List.getElem?_cons_zero,List.getElem?_cons_succ,Option.some.injEq]at hx hl;subst hx hl;exact Bk.byAll aK hsg (by decide)
  | 2,hx,hl=>
   simp only[List.getElem?_cons_zero,List.getElem?_cons_succ,Option.some.injEq]at hx hl;subst hx hl;exact aR
  | j+3,hx,hl=>simp at hx
 rw[←aG];clear aG kI kP b3 h1 aO B1;refine (A5t _ _ W3 hp (by have:=aI.out;simp;omega)).mono ?_;rintro x w4 ⟨u,rfl,ho,b4⟩;rw[show [[UInt8.ofNat i,tag],sig,body].flatten=Ia i tag sig body by simp[Ia]]at ho;have h4:=h3.up b4;have aS:=aK.below b4 aK.lt;have B4:=C1 B3 b4 B3.size;clear hp h3 aK B3 aR b4;have bL:∀raw,Zr w4 raw u=.ok (.value (S8 (Ia i tag sig body))) w4:=fun raw=>D0i ho.up raw;obtain⟨D,z,hD,hz,aD,aH,aT,aE⟩:=h4.mp.use (i:=i) (t:=tag) (s:=sig) (a:=body) (by omega) hsg (by rw[←aI.out];exact hbl);have bA:=aD w4 hD;have f1:=h4.bk.at_ (i:=1) rfl;rw[aQ.out]at hz aE;have aF:∀W,Below w.heap.size w W→w.grownBy W (some mb):=fun W hW=>⟨hW.os,hW.tape,hW.output,hW.size,fun k hk _=>hW.block k hk⟩;clear ho;rcases hz with rfl | hz
 ·have aU:By w4 0 w4.heap.size (.slice Ab bn cb) body:=(hb.below B4).more B4.size;obtain⟨ki,aL⟩:∃k,K[i]?=some k:=⟨_,List.getElem?_eq_getElem (by rw[h4.len];exact hi)⟩;obtain⟨g,o,rfl,hg,bB⟩:=h4.hs.at_ aL;have bC:ki.length=32:=h4.hs.1 ki (List.mem_of_getElem? aL);have aV:Cz ki tag body sig=bb:=by have:=aQ.out;unfold Jf at this;rwa [List.getD_eq_getElem?_getD,aL]at this
  have bD:=Lib.hid aV;have S1:Below w4.heap.size w4 w4.drew:=(Below.refl _ _).drew;have bM:(i:Int)<(q:Int):=by omega
  clear aV aL;go_wp2_with fail;refine E3 (fun W=>Below w4.heap.size w4 W) (by kernel_rfl) ?_;refine C5 (A:=?Ao) [0,1,2,3,4,5,6,7,8,9] (by kernel_rfl) (by kernel_rfl) rfl (by kernel_rfl) (by kernel_rfl) S1 (h:=fun W hW=>?bE) (hr:=?bN);case bE=>
   have g0:=(h4.bk.below hW h4.bk.lt).at_ (i:=0) rfl;have g1:=(Bv (a:=⟨g,o+i*32,none⟩) hW hg).trans bB;have g2:=(aS.below hW aS.lt).row8 hsg;simp only[pick,List.getElem?_cons_zero,List.getElem?_cons_succ];repeat (go_big_quiet_step (fail))
   refine wpQuiet_nil ?_;rfl
  refine C3 10 (by kernel_rfl) (by rfl) (by rfl) (fun Q' hQ'=>?_);dsimp only[E5];have aW:=Lib.hid hQ';clear hQ';go_wp2_with fail;refine (A5f ki tag _ body sig bC hsg w4.drew ((aU.below S1).more S1.size) (by rw[←aI.out];exact hbl)).mono ?_;rintro x w5 ⟨rfl,b5⟩;rw[bD.out];have aC:=S1.trans b5;go_wp2_with fail;refine aW.out _ _ aC ?_;clear aW;refine F0 (by kernel_rfl) ?_;have h5:=h4.up aC;have B5:=C1 B4 aC B4.size;have aP:=hD.kept (row:=none) ⟨aC.os,aC.tape,aC.output,aC.size,fun k hk _=>aC.block k (by omega)⟩ (by simp);have bO:=aH w5 aP 3;have bP:=h5.bk.at_ (i:=1) rfl;have aX:=C6w (l:=Ia i tag sig body) (Oi hsg (by rw[←aI.out];exact hbl));clear bA f1 aD aH hD aC b5 S1 aU;rcases Nat.lt_or_ge (Maps.size D) 16384 with hs | hs
  ·have bF:decide ((Maps.size D:Int)<16384)=true:=decide_eq_true (by omega);have bG:decide (Maps.size D<16384)=true:=decide_eq_true hs;have aY:Maps.size D<maxLen:=by unfold maxLen;omega
   cases bb with
   | true=>
    go_wp2_with (at_mapUpdate;refine wpList_mapUpdate_own _ rfl _ _ _ 164 rfl 9 3 Pc Tryz.underlying164 RI mb (Maps.size D) D rfl aP aY _ _ (kz (Ia i tag sig body)) rfl rfl aX (.held (.int .i64 1)) [] rfl ?_;intro w6 aB aA);go_ret;exact ⟨rfl,(aF _ B5).trans aA,h5.grow aA (aE w6 aB)⟩
   | false=>
    go_wp2_with (at_mapUpdate;refine wpList_mapUpdate_own _ rfl _ _ _ 164 rfl 9 3 Pc Tryz.underlying164 RI mb (Maps.size D) D rfl aP aY _ _ (kz (Ia i tag sig body)) rfl rfl aX (.held (.int .i64 2)) [] rfl ?_;intro w6 aB aA);go_ret;exact ⟨rfl,(aF _ B5).trans aA,h5.grow aA (aE w6 aB)⟩
  ·have bF:decide ((Maps.size D:Int)<16384)=false:=decide_eq_false (by omega);have bG:decide (Maps.size D<16384)=false:=decide_eq_false (by omega);cases bb with
   | true=>
    go_wp2_with fail;go_ret;exact ⟨rfl,aF _ B5,h5⟩
   | false=>
    go_wp2_with fail;go_ret;exact ⟨rfl,aF _ B5,h5⟩
 ·cases bb with
  | true=>
   obtain rfl:z=1:=hz;go_wp2_with fail;go_ret;exact ⟨rfl,aF _ B4,h4⟩
  | false=>
   obtain rfl:z=2:=hz;go_wp2_with fail;go_ret;exact ⟨rfl,aF _ B4,h4⟩
theorem B4p (n:Nat) (y:UInt8):∀s∈Z7 n y,s.length=32:=fun s hs=>by
 obtain⟨i,_,rfl⟩:=List.mem_map.1 hs;simp
noncomputable def Eg (n:Nat):List (List UInt8):=(Z7 n 2).map X0
theorem Ky (n:Nat):(Eg n).length=n:=by unfold Eg;rw[List.length_map,T8]
theorem C8j (f n:Nat) (hf:f≤2) (hn:n=3*f+1) (w:World):Calls Tryz.prog 7 #[.int .i64 (f:Int)] w fun x w'=>∃rv sv,x=.returned (.tuple #[rv,sv])∧Hs w' 0 w'.heap.size sv (Z7 n 2)∧Below w.heap.size w w'∧
 ((rv=.pointer none∧n≠1)∨∃rb mb A c,rv=.pointer (some ⟨rb,0,none⟩)∧w.heap.size≤rb∧w.heap.size≤mb∧Rg w' rb mb A n c (Eg n)):=by
 have hm:IntKind.i64.wrap (3*(f:Int))=3*(f:Int):=IntWalk.i64_in _ (by omega);have ha:IntKind.i64.wrap (3*(f:Int)+1)=(n:Int):=by rw[IntWalk.i64_in _ (by omega),hn];simp
 have aP:n=1∨n=4∨n=7:=by omega
 have aF:=Lib.hid aP;clear hn aP;go_enter Tryz.func7,Tryz.ntmps7;go_wp2_with fail;refine (C2n n 2 (by have:=aF.out;omega) w).mono ?_;rintro x w1 ⟨sv,rfl,hs,b1⟩;obtain⟨As,cs,rfl,-,-⟩:=hs.form;rw[T8]at *;have HS:=Lib.hid (hs.hs.less (Nat.zero_le _));clear hs hm ha;go_wp2_with fail;go_loopw [5,7,16] (fun ov _ jv wr=>∃i:Nat,jv=.int .i64 (i:Int)∧i≤n∧Ad wr w1.heap.size ov ((Eg n).take i)∧Below w1.heap.size w1 wr) (fun _ _ jv _=>n-(intOf jv).toNat)
 case atStart=>exact ⟨0,rfl,by omega,by simpa using Ad.nil _ _,Below.refl _ _⟩
 case round=>
  obtain⟨i,rfl,hi,ho,b⟩:=hrel;have aA:((Eg n).take i).length=i:=by rw[List.length_take,Ky];omega
  by_cases hlt:i<n
  ·have hd:decide ((i:Int)<(n:Int))=true:=decide_eq_true (by omega);have aV:decide (i<n)=true:=decide_eq_true hlt;obtain⟨sd,aD⟩:∃k,(Z7 n 2)[i]?=some k:=⟨_,List.getElem?_eq_getElem (by rw[T8];exact hlt)⟩;obtain⟨g,o,rfl,hg,aQ⟩:=HS.out.at_ aD;have aG:sd.length=32:=B4p n 2 sd (List.mem_of_getElem? aD);have aH:=(Bv (a:=⟨g,o+i*32,none⟩) b hg).trans aQ;have aI:E7 (wr.alloc (Obj.cells (c8 (z8 32)).toArray 35)) ⟨wr.heap.size,0,none⟩ 32=true:=(Bk.new wr _ _).can (by simp);obtain⟨we,aC⟩:∃y,y=C4 (wr.alloc (Obj.cells (c8 (z8 32)).toArray 35)) ⟨wr.heap.size,0,none⟩ (c8 sd):=⟨_,rfl⟩;have kg:Bk we wr.heap.size 35 (c8 sd):=by rw[aC];exact (Bk.new wr _ _).puts (by simp[aG])
   have be:Below wr.heap.size wr we:=by rw[aC];exact C0 ((Below.refl _ _).alloc (Nat.le_refl _) _) (Nat.le_refl _) _
   have aJ:=C1 b be b.size;have aE:=ho.below be (Nat.le_refl _);have rg:=kg.row8 aG;rw[aC]at rg;have aB:(Eg n)[i]?=some (X0 sd):=by unfold Eg;rw[List.getElem?_map,aD];rfl
   have aK:(Eg n).take (i+1)=(Eg n).take i++[X0 sd]:=by rw[List.take_add_one,aB];rfl
   obtain⟨L,hL⟩:∃L,L=(Eg n).take i:=⟨_,rfl⟩;rw[←hL]at aK aE aA ho;have HT:=Lib.hid aK;obtain⟨A5,c5,rfl,-,-⟩:=ho.form;rw[aA]at ho aE ⊢;clear aD aQ hL aK aB be;go_wp2_with fail;rw[←aC];clear aC aI aH rg;refine (A2r sd aG we).mono ?_;rintro x w6 ⟨rfl,b6⟩;have aL:=aE.below b6 (Nat.le_refl _);have B6:=C1 aJ b6 aJ.size;obtain⟨pk,aB⟩:∃y,y=X0 sd:=⟨_,rfl⟩;have aR:pk.length=32:=by rw[aB];exact Dv _
   rw[←aB]at HT ⊢;have aM:∀z∈c8 pk,z.oneCell'=true:=fun z hz=>by obtain⟨u,_,rfl⟩:=List.mem_map.1 hz;rfl
   have aW:L.length+1≤68719476736:=by have:=aF.out;omega
   clear aB b6 aE ho aJ b;go_wp2_with (at_builtin;refine A8f 26 35 (A8 (z8 32)) 32 32 Tryz.underlying26 A3t (by simp[A8,Value.cells]) (by decide) (by decide) rfl _ _ rfl rfl aL.2 (c8 pk) (by simp[aR]) aM _ rfl rfl rfl aW B6.size ?_;intro A7 c7 w7 bA bB aN aS aX aO);have aT:Ad w7 w1.heap.size (.slice A7 (i+1) c7) ((Eg n).take (i+1)):=by
    rw[HT.out];refine ⟨fun z hz=>?_,?_⟩
    ·rcases List.mem_append.1 hz with hz | hz
     ·exact aL.1 z hz
     ·rw[List.mem_singleton.1 hz];exact aR
    ·have aY:c8 (L++[pk]).flatten=c8 L.flatten++c8 pk:=by simp[c8]
     rw[aY,List.length_append];rw[aA]at aN ⊢;exact aN
   have b7:=B6.trans aS;clear aN aS aX aO aL;go_wp2_with fail;go_roundw;case rel=>exact ⟨i+1,by simp,by omega,by first | exact aT | (rw[aA];exact aT),b7⟩
   case measure=>simp[intOf];omega
  ·have hd:decide ((i:Int)<(n:Int))=false:=decide_eq_false (by omega);have aV:decide (i<n)=false:=decide_eq_false hlt;obtain rfl:i=n:=by omega
   rw[List.take_of_length_le (by rw[Ky];exact Nat.le_refl _)]at ho;have aZ:=(HS.out.below b).more b.size;have B:=C1 b1 b b1.size;clear aA;go_wp2_with fail;refine (C6q _ (Eg i) i (Ky i).symm aF.out wr (ho.hs.less (Nat.zero_le _))).mono ?_;rintro x w8 ⟨hx,b8⟩;have B8:=C1 B b8 B.size;have aU:=(aZ.below b8).more b8.size;rcases hx with ⟨rfl,h1⟩ | ⟨rb,mb,A,c,rfl,z1,z2,hR⟩
   ·go_wp2_with fail;go_ret2
    exact ⟨_,_,rfl,aU,B8,.inl ⟨rfl,h1⟩⟩
   ·have z3:=B.size;go_wp2_with fail;go_ret2
    exact ⟨_,_,rfl,aU,B8,.inr ⟨rb,mb,A,c,rfl,by omega,by omega,hR⟩⟩
section
def Ss (w:World) (B:Nat) (v:Value) (l:List (List UInt8)):Prop:=(∀k∈l,k.length=64)∧∃A c,v=.slice A l.length c∧l.length≤c∧c≤9223372036854775807∧Rd w 0 B A (c8 l.flatten)
theorem C3m {n:Nat} {l:List (List UInt8)} (h:∀k∈l,k.length=n):l.flatten.length=l.length*n:=by
 induction l with
 | nil=>simp
 | cons k l ih=>
  have h1:=ih fun q hq=>h q (by simp[hq]);have h2:=h k (by simp);simp only[List.flatten_cons,List.length_append,List.length_cons,Nat.succ_mul]at h1 ⊢;omega
theorem D0p {n:Nat} {l:List (List UInt8)} (h:∀k∈l,k.length=n):∀ {i:Nat} {k:List UInt8},l[i]?=some k→(l.flatten.drop (i*n)).take n=k:=by
 induction l with
 | nil=>intro i p hp;simp at hp
 | cons q l ih=>
  intro i p hp;have h2:=h q (by simp);cases i with
  | zero=>
   simp at hp;subst hp;simp only[List.flatten_cons,Nat.zero_mul,List.drop_zero];rw[←h2,List.take_left]
  | succ i=>
   have:=ih (fun q hq=>h q (by simp[hq])) (i:=i) (k:=p) (by simpa using hp);simp only[List.flatten_cons];rw[show (i+1)*n=q.length+i*n by rw[Nat.succ_mul];omega,←List.drop_drop,List.drop_left];exact this
section
variable {w w' : World} {B B' : Nat} {v : Value} {l : List (List UInt8)}
theorem Ss.at_ {A:Option Addr} {n c:Nat} (h:Ss w B (.slice A n c) l) {m:Nat} {k:List UInt8} (hk:l[m]?=some k):∃g o,A=some ⟨g,o,none⟩∧g<B∧D9 w ⟨g,o+m*64,none⟩ 64=some (c8 k):=by
 obtain⟨h0,A',c',h1,h2,h3,h4⟩:=h;injection h1 with h1;subst h1;have hm:=(List.getElem?_eq_some_iff.1 hk).1;obtain⟨g,o,rfl,_,hb,hc⟩:=h4.some (by rw[C6,C3m h0];omega);refine ⟨g,o,rfl,hb,?_⟩;have aB:=D0p h0 hk;have aA:=h0 k (List.mem_of_getElem? hk);refine Z0.2 ⟨by rw[C6,aA],fun j u hj=>?_⟩;have aC:j<64:=by have:=(List.getElem?_eq_some_iff.1 hj).1;rw[C6,aA]at this;exact this
 rw[Nat.add_assoc];refine hc _ _ ?_;rw[←hj,←aB];simp only[c8,List.getElem?_map,List.getElem?_take,List.getElem?_drop,if_pos aC]
end
structure Ct where
 body:List UInt8
 by_:List Int
 sigs:List (List UInt8)
structure CtV (w : World) (B : Nat) (bv sv gv : Value) (x : Ct) : Prop where
 b:By w 0 B bv x.body
 s:Ns w B sv x.by_
 g:Ss w B gv x.sigs
section
variable {w w' : World} {B B' : Nat} {bv sv gv : Value} {x : Ct}
theorem Ns.below_ {v:Value} {l:List Int} (h:Ns w B v l) (hb:Below B w w'):Ns w' B v l:=let ⟨A,c,h1,h2,h3,h4⟩:=h;⟨A,c,h1,h2,h3,h4.below hb⟩
theorem Ns.more_ {v:Value} {l:List Int} (h:Ns w B v l) (hB:B≤B'):Ns w B' v l:=let ⟨A,c,h1,h2,h3,h4⟩:=h;⟨A,c,h1,h2,h3,h4.more hB⟩
theorem Ss.below {v:Value} {l:List (List UInt8)} (h:Ss w B v l) (hb:Below B w w'):Ss w' B v l:=let ⟨h0,A,c,h1,h2,h3,h4⟩:=h;⟨h0,A,c,h1,h2,h3,h4.below hb⟩
theorem Ss.more {v:Value} {l:List (List UInt8)} (h:Ss w B v l) (hB:B≤B'):Ss w B' v l:=let ⟨h0,A,c,h1,h2,h3,h4⟩:=h;⟨h0,A,c,h1,h2,h3,h4.more hB⟩
theorem CtV.below (h:CtV w B bv sv gv x) (hb:Below B w w'):CtV w' B bv sv gv x:=⟨h.b.below hb,h.s.below_ hb,h.g.below hb⟩
theorem CtV.more (h:CtV w B bv sv gv x) (hB:B≤B'):CtV w B' bv sv gv x:=⟨h.b.more hB,h.s.more_ hB,h.g.more hB⟩
theorem CtV.up (h:CtV w w.heap.size bv sv gv x) (hb:Below w.heap.size w w'):CtV w' w'.heap.size bv sv gv x:=(h.below hb).more hb.size
theorem CtV.own {mb:Nat} (h:CtV w B bv sv gv x) (hg:w.grownBy w' (some mb)) (hn:∀r,some mb=some r→∃o:Obj,w.heap[r]?=some o∧o.isCells=false):CtV w' B bv sv gv x:=by
 obtain⟨⟨A1,c1,e1,a1,b1,r1⟩,⟨A2,c2,e2,a2,b2,r2⟩,⟨h0,A3,c3,e3,a3,b3,r3⟩⟩:=h;exact ⟨⟨A1,c1,e1,a1,b1,Fp r1 hg hn⟩,⟨A2,c2,e2,a2,b2,Fp r2 hg hn⟩,⟨h0,A3,c3,e3,a3,b3,Fp r3 hg hn⟩⟩
theorem CtV.form (h:CtV w B bv sv gv x):∃A1 c1 A2 c2 A3 c3,bv=.slice A1 x.body.length c1∧sv=.slice A2 x.by_.length c2∧gv=.slice A3 x.sigs.length c3:=by
 obtain⟨⟨A1,c1,e1,a1,b1,r1⟩,⟨A2,c2,e2,a2,b2,r2⟩,⟨h0,A3,c3,e3,a3,b3,r3⟩⟩:=h;rw[List.length_map]at e1;exact ⟨A1,c1,A2,c2,A3,c3,e1,e2,e3⟩
end
section
variable {w w' : World} {rb mb q c : Nat} {A : Option Addr} {K : List (List UInt8)}
theorem B9l (h:Rg w rb mb A q c K):Calls Tryz.prog 81 #[.pointer (some ⟨rb,0,none⟩)] w fun x w'=>x=.returned (.int .i64 (q:Int))∧w'=w:=by
 have f0:=h.bk.at_ (i:=0) rfl;go_enter Tryz.func81,Tryz.ntmps81;go_wp2_with fail;go_ret;exact ⟨rfl,rfl⟩
theorem C3t (h:Rg w rb mb A q c K):Calls Tryz.prog 80 #[.pointer (some ⟨rb,0,none⟩)] w fun x w'=>x=.returned (.int .i64 ((2*(q / 3)+1:Nat):Int))∧w'=w:=by
 have hq:=h.small;have aA:Calls Tryz.prog 128 #[.pointer (some ⟨rb,0,none⟩)] w fun x w'=>x=.returned (.int .i64 ((q / 3:Nat):Int))∧w'=w:=by
  go_enter Tryz.func128,Tryz.ntmps128;go_wp2_with fail;refine (B9l h).mono ?_;rintro x w1 ⟨rfl,rfl⟩;have hd:Op.intDiv .quo .i64 (q:Int) 3=pure (.int .i64 ((q / 3:Nat):Int)):=by
   have h2:∀k:Nat,k≤7→(Op.intDiv .quo .i64 (k:Int) 3:Sem Value)=pure (.int .i64 ((k / 3:Nat):Int)):=by
    intro k hk;match k,hk with
    | 0,_=>rfl
    | 1,_=>rfl
    | 2,_=>rfl
    | 3,_=>rfl
    | 4,_=>rfl
    | 5,_=>rfl
    | 6,_=>rfl
    | 7,_=>rfl
   exact h2 q hq
  go_wp2_with fail;go_ret;exact ⟨by first | rfl | simp,rfl⟩
 go_enter Tryz.func80,Tryz.ntmps80;go_wp2_with fail;refine aA.mono ?_;rintro x w1 ⟨rfl,rfl⟩;obtain⟨f,hf⟩:∃f,f=q / 3:=⟨_,rfl⟩;have aB:f≤2:=by omega
 rw[←hf];have hm:IntKind.i64.wrap (2*(f:Int))=2*(f:Int):=IntWalk.i64_in _ (by omega);have ha:IntKind.i64.wrap (2*(f:Int)+1)=2*(f:Int)+1:=IntWalk.i64_in _ (by omega);have HF:=Lib.hid hf;clear hf hq;go_wp2_with fail;go_ret;exact ⟨by have:=HF.out;simp;omega,rfl⟩
end
theorem D0e {P:Program} {f:FuncId} {args:Array Value} {w:World} {m:Nat} {v:Value} (h:Calls P f args (w.drewN m) fun e w'=>e=.returned v∧w'=w.drewN m) :
 Calls P f args (w.drewN m) fun e w''=>e=.returned v∧∃m,w''=w.drewN m:=h.mono fun _ _ ⟨he,hm⟩=>⟨he,m,hm⟩
theorem C3e {P:Program} {f:FuncId} {args:Array Value} {w:World} {m n:Nat} {v:Value} (h:Calls P f args (w.drewN (m+n)) fun e w'=>e=.returned v∧w'=w.drewN (m+n)) :
 Calls P f args (w.drewN (m+n)) fun e w''=>e=.returned v∧∃k,w''=w.drewN (m+k):=h.mono fun _ _ ⟨he,hm⟩=>⟨he,n,hm⟩
theorem Rg.drewN {w:World} {rb mb q c:Nat} {A:Option Addr} {K:List (List UInt8)} (h:Rg w rb mb A q c K) (n:Nat):Rg (w.drewN n) rb mb A q c K:=h.up (N6 (Below.refl _ _) n)
noncomputable def Q5 (K:List (List UInt8)) (tag:UInt8) (body:List UInt8):List Nat→List (List UInt8)→Bool
 | s::S,g::G=>Jf K s tag body g&&Q5 K tag body S G
 | _,_=>true
theorem B4q {K:List (List UInt8)} {tag:UInt8} {body:List UInt8}:∀ {S:List Nat} {G:List (List UInt8)} {i:Nat} {s:Nat} {g:List UInt8},S[i]?=some s→G[i]?=some g→
 Q5 K tag body (S.take (i+1)) (G.take (i+1))=(Q5 K tag body (S.take i) (G.take i)&&Jf K s tag body g):=by
 intro S;induction S with
 | nil=>intro G i s g h;simp at h
 | cons a S ih=>
  intro G i s g hs hg;cases G with
  | nil=>simp at hg
  | cons b G=>
   cases i with
   | zero=>
    obtain rfl:a=s:=by simpa using hs
    obtain rfl:b=g:=by simpa using hg
    simp[Q5]
   | succ i=>
    have:=ih (G:=G) (i:=i) (s:=s) (g:=g) (by simpa using hs) (by simpa using hg);simp only[List.take_succ_cons,Q5,this,Bool.and_assoc]
theorem B7r {K:List (List UInt8)} {tag:UInt8} {body:List UInt8}:∀ {S:List Nat} {G:List (List UInt8)} {i:Nat} {s:Nat} {g:List UInt8},S[i]?=some s→G[i]?=some g→Jf K s tag body g=false→Q5 K tag body S G=false:=by
 intro S;induction S with
 | nil=>intro G i s g h;simp at h
 | cons a S ih=>
  intro G i s g hs hg ho;cases G with
  | nil=>simp at hg
  | cons b G=>
   cases i with
   | zero=>
    obtain rfl:a=s:=by simpa using hs
    obtain rfl:b=g:=by simpa using hg
    simp[Q5,ho]
   | succ i=>
    have:=ih (G:=G) (i:=i) (s:=s) (g:=g) (by simpa using hs) (by simpa using hg) ho;simp[Q5,this]
def E2p (b:Bool):Int:=if b then 0 else 60
def A2p (S:List Nat) (i:Nat):Int:=if i=0 then -1 else ((S.getD (i-1) 0:Nat):Int)
theorem B5x {S:List Nat} {i a:Nat} (h:S[i]?=some a):A2p S (i+1)=(a:Int):=by
 unfold A2p;rw[if_neg (by omega),Nat.add_sub_cancel,List.getD_eq_getElem?_getD,h];rfl
theorem C6r {S:List Nat} (hS:S.Pairwise (· < ·)) {i a:Nat} (h:S[i]?=some a):A2p S i<(a:Int):=by
 unfold A2p;split
 ·omega
 ·rename_i h0
  obtain⟨hi,rfl⟩:=List.getElem?_eq_some_iff.1 h;have h1:i-1<S.length:=by omega
  rw[List.getD_eq_getElem?_getD,List.getElem?_eq_getElem h1];have:=List.pairwise_iff_getElem.1 hS (i-1) i h1 hi (by omega);simp only[Option.getD_some];omega
theorem C2t {w:World} {rb mb q c:Nat} {A:Option Addr} {K:List (List UInt8)} (h:Rg w rb mb A q c K) (bv sv gv:Value) (x:Ct) (hx:CtV w w.heap.size bv sv gv x) (hbl:x.body.length≤1000000)
 (S:List Nat) (hS:x.by_=S.map Int.ofNat) (m:Nat) (hm:m=2*(q / 3)+1) (hSl:S.length=m) (hGl:x.sigs.length=m) (hup:S.Pairwise (· < ·)) (hSq:∀i∈S,i<q) (tag:UInt8) :
 Calls Tryz.prog 32 #[.pointer (some ⟨rb,0,none⟩),.int .u8 (n8 tag),.agg #[bv,sv,gv]] w fun e w'=>e=.returned (.int .i64 (E2p (Q5 K tag x.body S x.sigs)))∧w.grownBy w' (some mb)∧Rg w' rb mb A q c K:=by
 obtain⟨Ab,cb,As,cs,Ag,cg,rfl,rfl,rfl⟩:=hx.form;have bQ:=h.small;have bR:m≤5:=by omega
 have aM:x.by_.length=m:=by rw[hS,List.length_map,hSl]
 rw[aM,hGl]at hx ⊢;obtain⟨bn,aN⟩:∃y,y=x.body.length:=⟨_,rfl⟩;rw[←aN]at hx hbl ⊢;have bH:=Lib.hid aN;obtain⟨W0,aE⟩:∃z,z=w.alloc (Obj.cells #[.slice Ab bn cb,.slice As m cs,.slice Ag m cg] 33):=⟨_,rfl⟩;have kC:Bk W0 w.heap.size 33 [.slice Ab bn cb,.slice As m cs,.slice Ag m cg]:=by rw[aE];exact Bk.new w _ _
 have B0:Below w.heap.size w W0:=by rw[aE];exact (Below.refl _ _).alloc (Nat.le_refl _) _
 have h0:=h.up B0;have aW:=hx.up B0;have bS:((m:Int) != (m:Int))=false:=by simp
 have HM:=Lib.hid hm;have HS:=Lib.hid hS;have aO:∀k,Calls Tryz.prog 80 #[.pointer (some ⟨rb,0,none⟩)] (W0.drewN k) fun x w'=>x=.returned (.int .i64 (m:Int))∧w'=W0.drewN k:=fun k=>by
  have:=C3t (h0.drewN k);rwa [←hm]at this
 have k0:=kC.at_ (i:=0) rfl;have k1:=kC.at_ (i:=1) rfl;have k2:=kC.at_ (i:=2) rfl;have aX:w.heap.size≠mb:=fun e=>by
  obtain⟨o,ho,_⟩:=h.mp.notCells mb rfl;have:=(Array.getElem?_eq_some_iff.1 ho).1;omega
 have aP:=Lib.hid B0;have aY:=Lib.hid aW;clear aN hm hS hx B0 aW h;go_enter Tryz.func32,Tryz.ntmps32;go_wp2_with fail;rw[←aE];clear aE;go_quiet ((go_at_call 80;first | exact D0e (aO _) | exact C3e (aO _)));obtain⟨W1,aF⟩:∃z,z=W0.drewN nq:=⟨_,rfl⟩;rw[←aF];have h1:Rg W1 rb mb A q c K:=by rw[aF];exact h0.drewN nq
 have b1:Below W0.heap.size W0 W1:=by rw[aF];exact N6 (Below.refl _ _) nq
 have aG:=kC.below b1 kC.lt;have aQ:=Lib.hid (aY.out.up b1);have B1:w.grownBy W1 (some mb):=by have b:=C1 aP.out b1 aP.out.size;exact ⟨b.os,b.tape,b.output,b.size,fun k hk _=>b.block k hk⟩
 have aZ:=Lib.hid B1;have k0:=aG.at_ (i:=0) rfl;have k1:=aG.at_ (i:=1) rfl;have k2:=aG.at_ (i:=2) rfl;clear aF h0 b1 kC aY B1 aP aO;go_wp2_with fail;go_loopw [7,9,33] (fun lv _ xv wr=>∃i:Nat,xv=.int .i64 (i:Int)∧lv=.int .i64 (A2p S i)∧i≤m∧W1=wr) (fun _ _ xv _=>m-(intOf xv).toNat)
 case atStart=>exact ⟨0,rfl,rfl,by omega,rfl⟩
 case round=>
  obtain⟨i,rfl,rfl,hi,rfl⟩:=hrel;by_cases hlt:i<m
  ·have hd:decide ((i:Int)<(m:Int))=true:=decide_eq_true (by omega);have aR:decide (i<m)=true:=decide_eq_true hlt;obtain⟨a,ha⟩:∃a,S[i]?=some a:=⟨_,List.getElem?_eq_getElem (by rw[hSl];exact hlt)⟩;have bA:a<q:=hSq a (List.mem_of_getElem? ha);obtain⟨g,o,rfl,hg,aC⟩:=aQ.out.s.at_ (i:=i) (a:=(a:Int)) (by rw[HS.out,List.getElem?_map,ha];rfl);have bB:=C6r hup ha;have bI:=B5x ha;obtain⟨z,hz⟩:∃z,z=A2p S i:=⟨_,rfl⟩;rw[←hz]at bB ⊢;have bT:decide ((a:Int)≤z)=false:=decide_eq_false (by omega);have bU:decide ((q:Int)≤(a:Int))=false:=decide_eq_false (by omega);have bJ:decide (q≤a)=false:=decide_eq_false (by omega);have bK:IntKind.i64.wrap ((i:Int)+1)=(i:Int)+1:=IntWalk.i64_in _ (by omega);clear hz bB ha;go_wp2_with fail;refine (B9l h1).mono ?_;rintro y w2 ⟨rfl,rfl⟩;go_wp2_with fail;go_roundw;case rel=>exact ⟨i+1,by simp,by rw[bI],by omega,by first | rfl | trivial⟩
   case measure=>simp[intOf];omega
  ·have hd:decide ((i:Int)<(m:Int))=false:=decide_eq_false (by omega);have aR:decide (i<m)=false:=decide_eq_false hlt;obtain⟨z,hz⟩:∃z,z=A2p S i:=⟨_,rfl⟩;rw[←hz];clear hz;go_wp2_with fail;go_loopw [10,11,51] (fun _ _ xv wr=>∃j:Nat,xv=.int .i64 (j:Int)∧j≤m∧Q5 K tag x.body (S.take j) (x.sigs.take j)=true∧W1.grownBy wr (some mb)∧Rg wr rb mb A q c K) (fun _ _ xv _=>m-(intOf xv).toNat)
   case atStart=>exact ⟨0,rfl,by omega,by simp[Q5],World.grownBy.refl W1 _,h1⟩
   case round=>
    obtain⟨j,rfl,hj,aD,aA,hR⟩:=hrel;have aH:=aG.grown aA (fun e=>by injection e with e;exact aX e);have aI:=aQ.out.own aA h1.mp.notCells;have k0:=aH.at_ (i:=0) rfl;have k1:=aH.at_ (i:=1) rfl;have k2:=aH.at_ (i:=2) rfl;by_cases hlt:j<m
    ·have hd:decide ((j:Int)<(m:Int))=true:=decide_eq_true (by omega);have aR:decide (j<m)=true:=decide_eq_true hlt;obtain⟨a,ha⟩:∃a,S[j]?=some a:=⟨_,List.getElem?_eq_getElem (by rw[hSl];exact hlt)⟩;obtain⟨sg,aB⟩:∃a,x.sigs[j]?=some a:=⟨_,List.getElem?_eq_getElem (by rw[hGl];exact hlt)⟩;have bA:a<q:=hSq a (List.mem_of_getElem? ha);have aS:sg.length=64:=aQ.out.g.1 sg (List.mem_of_getElem? aB);obtain⟨g,o,rfl,hg,aC⟩:=aI.s.at_ (i:=j) (a:=(a:Int)) (by rw[HS.out,List.getElem?_map,ha];rfl);have bK:IntKind.i64.wrap ((j:Int)+1)=(j:Int)+1:=IntWalk.i64_in _ (by omega);obtain⟨ob,aT⟩:∃b,b=Jf K a tag x.body sg:=⟨_,rfl⟩;have bC:=Lib.hid (B4q (K:=K) (tag:=tag) (body:=x.body) ha aB);have bD:∀b:Bool,b=false→Jf K a tag x.body sg=b→Q5 K tag x.body S x.sigs=false:=fun b hb h=>B7r ha aB (h.trans hb);rw[←aT]at bC;have bL:=Lib.hid bD;clear bD;have bE:=Lib.hid aT;have aU:=Lib.hid aD;obtain⟨gg,go,rfl,bW,aV⟩:=aI.g.at_ aB;have bF:=Lib.hid aI;have bM:=Lib.hid aB;have bX:(j:Int)<(m:Int):=by omega
     have aJ:wr.grownBy wr.drew (some mb)∧Rg wr.drew rb mb A q c K:=⟨⟨rfl,rfl,rfl,Nat.le_refl _,fun _ _ _=>rfl⟩,hR.up ((Below.refl _ _).drew)⟩;clear ha aB aT aD aI;go_wp2_with fail;refine E3 (fun W=>wr.grownBy W (some mb)∧Rg W rb mb A q c K) (by kernel_rfl) ?_;refine C5 (A:=?Aq) [0,1,2,3,4,5,6,7,8,9] (by kernel_rfl) (by kernel_rfl) rfl (by kernel_rfl) (by kernel_rfl) aJ (h:=fun W hW=>?bN) (hr:=?bY);case bN=>
      have kW:=aH.grown hW.1 (fun e=>by injection e with e;exact aX e);have k0:=kW.at_ (i:=0) rfl;have k2:=kW.at_ (i:=2) rfl;obtain⟨bZ,cA,e,_,aV⟩:=(bF.out.own hW.1 hR.mp.notCells).g.at_ bM.out;cases e;simp only[pick,List.getElem?_cons_zero,List.getElem?_cons_succ];repeat (go_big_quiet_step (fail))
      refine wpQuiet_nil ?_;rfl
     refine C3 10 (by kernel_rfl) (by rfl) (by rfl) (fun Q' hQ'=>?_);dsimp only[E5];have bG:=Lib.hid hQ';clear hQ';go_wp2_with fail;refine (C3x aJ.2 a bA tag _ x.body sg (Sl.below (Sl.more bF.out.b aA.size) (Below.refl _ _).drew) (by rw[←bH.out];exact hbl) aS).mono ?_;rintro y w5 ⟨rfl,bO,aK⟩;rw[←bE.out];have aL:=aJ.1.trans bO;clear aJ;go_wp2_with fail;refine bG.out _ _ ⟨aL,aK⟩ ?_;clear bG;refine C5 (A:=?Ar) [11] (by kernel_rfl) (by kernel_rfl) rfl (by kernel_rfl) (by kernel_rfl) ⟨aL,aK⟩ (h:=fun W hW=>?bP) (hr:=?cB);case bP=>
      simp only[pick,List.getElem?_cons_zero,List.getElem?_cons_succ];repeat (go_big_quiet_step (fail))
      refine wpQuiet_nil ?_;rfl
     refine F0 (by kernel_rfl) ?_;cases ob with
     | true=>
      go_wp2_with fail;go_roundw;case rel=>exact ⟨j+1,by simp,by omega,by rw[bC.out,aU.out];rfl,aA.trans aL,aK⟩
      case measure=>simp[intOf];omega
     | false=>
      go_wp2_with fail;go_ret;exact ⟨by rw[bL.out false rfl bE.out.symm];rfl,aZ.out.trans (aA.trans aL),aK⟩
    ·have hd:decide ((j:Int)<(m:Int))=false:=decide_eq_false (by omega);have aR:decide (j<m)=false:=decide_eq_false hlt;obtain rfl:j=m:=by omega
     rw[←hSl,List.take_of_length_le (Nat.le_refl _),hSl,←hGl,List.take_of_length_le (Nat.le_refl _)]at aD;have aU:=Lib.hid aD;clear aD;go_wp2_with fail;go_ret;exact ⟨by rw[aU.out];rfl,aZ.out.trans aA,hR⟩
end
section
def Ni (v:UInt64):Bool:=decide (C8 v<1)||decide (2147483648≤C8 v)
def rtE (o:Bool) (v:UInt64):Int:=if o then (if Ni v then 13 else 0) else 60
def Th (o:Bool) (v:UInt64):Int:=if o && !Ni v then C8 v else 0
def Xt (o:Bool) (v:UInt64) (h:List UInt8):List UInt8:=if o && !Ni v then h else z8 32
theorem A2n {o:Bool} {v:UInt64} {h:List UInt8} (hh:h.length=32):(Xt o v h).length=32:=by unfold Xt;split<;>simp[hh]
theorem C3r (v:UInt64):Th false v=0:=by simp[Th]
theorem C1q (v:UInt64) (h:List UInt8):Xt false v h=z8 32:=by simp[Xt]
theorem C0d {v:UInt64} (h:Ni v=true):Th true v=0:=by simp[Th,h]
theorem B8f {v:UInt64} (l:List UInt8) (h:Ni v=true):Xt true v l=z8 32:=by simp[Xt,h]
theorem A8l {v:UInt64} (h:Ni v=true):rtE true v=13:=by simp[rtE,h]
theorem B5o {v:UInt64} (h:Ni v=false):Th true v=C8 v:=by simp[Th,h]
theorem C5f {v:UInt64} (l:List UInt8) (h:Ni v=false):Xt true v l=l:=by simp[Xt,h]
theorem B5w {v:UInt64} (h:Ni v=false):rtE true v=0:=by simp[rtE,h]
theorem A5q (v:UInt64):rtE false v=60:=by simp[rtE]
section
variable {w w' : World} {rb mb q c : Nat} {A : Option Addr} {K : List (List UInt8)}
theorem S4 {B:Nat} {row:Option Nat} (hb:Below B w w') (hB:w.heap.size≤B):w.grownBy w' row:=⟨hb.os,hb.tape,hb.output,hb.size,fun k hk _=>hb.block k (by omega)⟩
theorem Rg.putNew {W:World} (h:Rg w rb mb A q c K) (hR:Rg W rb mb A q c K) {b:Nat} (hb:w.heap.size≤b) (hs:w.heap.size≤W.heap.size) (o:Nat) (vs:List Value):Rg (C4 W ⟨b,o,none⟩ vs) rb mb A q c K:=by
 have z1:=h.bk.lt;have z2:mb<w.heap.size:=by obtain⟨o,ho,_⟩:=h.mp.notCells mb rfl;exact (Array.getElem?_eq_some_iff.1 ho).1
 have aA:Below w.heap.size W (C4 W ⟨b,o,none⟩ vs):=C0 (Below.refl _ _) hb vs;refine ⟨hR.bk.putFar (by show rb≠b;omega) vs,?_,hR.mp.kept (X4 W b o vs) (fun e=>by injection e with e;omega),hR.len,hR.small⟩;obtain⟨_,A1,c1,e1,_,_,r1⟩:=h.hs;obtain⟨h0,A2,c2,e2,a2,b2,r2⟩:=hR.hs;have eA:A1=A2:=by rw[e1]at e2;injection e2
 subst eA;refine Hs.more (B:=w.heap.size) ⟨h0,A1,c2,e2,a2,b2,Rd.below ?_ aA⟩ (Nat.le_trans hs aA.size);rcases r1 with r1 | ⟨g,o',rfl,_,hg,_⟩
 ·exact .inl r1
 ·rcases r2 with r2 | ⟨g2,o2,e,_,_,hc⟩
  ·exact .inl r2
  ·cases e;exact .inr ⟨g,o',rfl,Nat.zero_le _,hg,hc⟩
theorem C1r (tag:UInt8) (A1 A2 A3:Option Addr) (n1 c1 n2 c2 n3 c3:Nat) (w:World):Calls Tryz.prog 32 #[.pointer none,.int .u8 (n8 tag),.agg #[.slice A1 n1 c1,.slice A2 n2 c2,.slice A3 n3 c3]] w fun e w'=>e=.returned (.int .i64 80)∧Below w.heap.size w w':=by
 obtain⟨W0,aA⟩:∃z,z=w.alloc (Obj.cells #[.slice A1 n1 c1,.slice A2 n2 c2,.slice A3 n3 c3] 33):=⟨_,rfl⟩;have B0:Below w.heap.size w W0:=by rw[aA];exact (Below.refl _ _).alloc (Nat.le_refl _) _
 go_enter Tryz.func32,Tryz.ntmps32;go_wp2_with fail;rw[←aA];clear aA;go_quiet (fail);go_wp2_with fail;go_ret;exact ⟨rfl,N6 B0 nq⟩
theorem B6z (rv:Value) (w:World):Calls Tryz.prog 9 #[rv,.agg #[.slice none 0 0,.slice none 0 0,.slice none 0 0]] w fun e w'=>e=.returned (.tuple #[Cf 0 (z8 32),.int .i64 0])∧Below w.heap.size w w':=by
 obtain⟨W0,aA⟩:∃z,z=(w.alloc (Obj.cells #[.slice none 0 0,.slice none 0 0,.slice none 0 0] 33)).alloc (Obj.cells (Q9 0 (z8 32)).toArray 37):=⟨_,rfl⟩;have kC:Bk W0 w.heap.size 33 [.slice none 0 0,.slice none 0 0,.slice none 0 0]:=by rw[aA];exact (Bk.new w _ _).alloc _
 have kR:Bk W0 (w.heap.size+1) 37 (Q9 0 (z8 32)):=by rw[aA];simpa using Bk.new (w.alloc (Obj.cells #[.slice none 0 0,.slice none 0 0,.slice none 0 0] 33)) 37 (Q9 0 (z8 32))
 have B0:Below w.heap.size w W0:=by rw[aA];exact ((Below.refl _ _).alloc (Nat.le_refl _) _).alloc (by simp) _
 have k0:=kC.at_ (i:=0) rfl;have k1:=kC.at_ (i:=1) rfl;have k2:=kC.at_ (i:=2) rfl;have hz:(z8 32).length=32:=I1 32;have aC:rtL 0 (z8 32)=33:=Y5 hz;have aB:=kR.canrt hz;rw[aA]at k0 k1 k2 aB;go_enter Tryz.func9,Tryz.ntmps9;go_wp2_with fail;rw[←aA];exact bodyPost_ret (I9 rfl (Ep (kR.putrt hz hz) hz rfl) (H9.tmp rfl)) rfl ⟨rfl,C0 B0 (by simp) _⟩
theorem Ph (A1 A2 A3:Option Addr) (n1 c1 n2 c2 n3 c3:Nat) (h1:0<n1) (h2:n1+n2+n3≤10000000) (w:World):Calls Tryz.prog 9 #[.pointer none,.agg #[.slice A1 n1 c1,.slice A2 n2 c2,.slice A3 n3 c3]] w fun e w'=>e=.returned (.tuple #[Cf 0 (z8 32),.int .i64 80])∧Below w.heap.size w w':=by
 obtain⟨W0,aA⟩:∃z,z=(w.alloc (Obj.cells #[.slice A1 n1 c1,.slice A2 n2 c2,.slice A3 n3 c3] 33)).alloc (Obj.cells (Q9 0 (z8 32)).toArray 37):=⟨_,rfl⟩;have kC:Bk W0 w.heap.size 33 [.slice A1 n1 c1,.slice A2 n2 c2,.slice A3 n3 c3]:=by rw[aA];exact (Bk.new w _ _).alloc _
 have kR:Bk W0 (w.heap.size+1) 37 (Q9 0 (z8 32)):=by rw[aA];simpa using Bk.new (w.alloc (Obj.cells #[.slice A1 n1 c1,.slice A2 n2 c2,.slice A3 n3 c3] 33)) 37 (Q9 0 (z8 32))
 have B0:Below w.heap.size w W0:=by rw[aA];exact ((Below.refl _ _).alloc (Nat.le_refl _) _).alloc (by simp) _
 have k0:=kC.at_ (i:=0) rfl;have k1:=kC.at_ (i:=1) rfl;have k2:=kC.at_ (i:=2) rfl;have aE:=kC.rows;have hz:(z8 32).length=32:=I1 32;have aC:rtL 0 (z8 32)=33:=Y5 hz;have aF:IntKind.i64.wrap ((n1:Int)+(n2:Int))=(n1:Int)+(n2:Int):=IntWalk.i64_in _ (by omega);have aG:IntKind.i64.wrap ((n1:Int)+(n2:Int)+(n3:Int))=(n1:Int)+(n2:Int)+(n3:Int):=IntWalk.i64_in _ (by omega);have aH:((n1:Int)+(n2:Int)+(n3:Int)==0)=false:=beq_eq_false_iff_ne.2 (by omega);rw[aA]at k0 k1 k2;go_enter Tryz.func9,Tryz.ntmps9;go_wp2_with fail;rw[←aA];refine (C1r 5 A1 A2 A3 n1 c1 n2 c2 n3 c3 W0).mono ?_;rintro e w1 ⟨rfl,b1⟩;have aB:=kR.below b1 kR.lt;have B1:=C1 B0 b1 B0.size;have aD:=aB.canrt hz;go_wp2_with fail;exact bodyPost_ret (I9 rfl (Ep (aB.putrt hz hz) hz rfl) (H9.tmp rfl)) rfl ⟨rfl,C0 B1 (by simp) _⟩
theorem C1c (h:Rg w rb mb A q c K) (bv sv gv:Value) (x:Ct) (hx:CtV w w.heap.size bv sv gv x) (S:List Nat) (hS:x.by_=S.map Int.ofNat) (m:Nat) (hm:m=2*(q / 3)+1) (hSl:S.length=m) (hGl:x.sigs.length=m) (hup:S.Pairwise (· < ·)) (hSq:∀i∈S,i<q)
 (v:UInt64) (hb:List UInt8) (hh:hb.length=32) (hbd:x.body=J3 v++hb) :
 Calls Tryz.prog 9 #[.pointer (some ⟨rb,0,none⟩),.agg #[bv,sv,gv]] w fun e w'=>
  e=.returned (.tuple #[Cf (Th (Q5 K 5 x.body S x.sigs) v) (Xt (Q5 K 5 x.body S x.sigs) v hb),.int .i64 (rtE (Q5 K 5 x.body S x.sigs) v)])∧w.grownBy w' (some mb)∧Rg w' rb mb A q c K:=by
 have bX:=h.small;have aD:x.body.length=40:=by rw[hbd];simp[hh]
 have aH:x.by_.length=m:=by rw[hS,List.length_map,hSl]
 obtain⟨Ab,cb,As,cs,Ag,cg,rfl,rfl,rfl⟩:=hx.form;rw[aD,aH,hGl]at hx ⊢;have bY:m≤5:=by omega
 obtain⟨ob,aP⟩:∃b,b=Q5 K 5 x.body S x.sigs:=⟨_,rfl⟩;rw[←aP];have bN:=Lib.hid aP;obtain⟨W0,aE⟩:∃z,z=(w.alloc (Obj.cells #[.slice Ab 40 cb,.slice As m cs,.slice Ag m cg] 33)).alloc (Obj.cells (Q9 0 (z8 32)).toArray 37):=⟨_,rfl⟩;have kC:Bk W0 w.heap.size 33 [.slice Ab 40 cb,.slice As m cs,.slice Ag m cg]:=by rw[aE];exact (Bk.new w _ _).alloc _
 have kR:Bk W0 (w.heap.size+1) 37 (Q9 0 (z8 32)):=by rw[aE];simpa using Bk.new (w.alloc (Obj.cells #[.slice Ab 40 cb,.slice As m cs,.slice Ag m cg] 33)) 37 (Q9 0 (z8 32))
 have B0:Below w.heap.size w W0:=by rw[aE];exact ((Below.refl _ _).alloc (Nat.le_refl _) _).alloc (by simp) _
 have k0:=kC.at_ (i:=0) rfl;have k1:=kC.at_ (i:=1) rfl;have k2:=kC.at_ (i:=2) rfl;have hz:(z8 32).length=32:=I1 32;have bO:rtL 0 (z8 32)=33:=Y5 hz;have bZ:IntKind.i64.wrap (40+(m:Int))=40+(m:Int):=IntWalk.i64_in _ (by omega);have cA:IntKind.i64.wrap (40+(m:Int)+(m:Int))=40+(m:Int)+(m:Int):=IntWalk.i64_in _ (by omega);have cB:(40+(m:Int)+(m:Int)==0)=false:=beq_eq_false_iff_ne.2 (by omega);have aI:mb<w.heap.size:=by obtain⟨o,ho,_⟩:=h.mp.notCells mb rfl;exact (Array.getElem?_eq_some_iff.1 ho).1
 have h0:=h.up B0;have aQ:=hx.up B0;have HC:=Lib.hid (C2t h0 _ _ _ x aQ (by rw[aD];decide) S hS m hm hSl hGl hup hSq 5);have bP:=Lib.hid B0;have aZ:=Lib.hid aQ;have bA:=Lib.hid hbd;have HN:=Lib.hid h0.mp.notCells;have HH:=Lib.hid h;have bB:=Lib.hid aI;clear aP hm hS hx aQ h aH aD hbd aI B0 h0;rw[aE]at k0 k1 k2;go_enter Tryz.func9,Tryz.ntmps9;go_wp2_with fail;rw[←aE];clear aE k0 k1 k2;refine HC.out.mono ?_;clear HC;rintro e w2 ⟨rfl,aJ,aL⟩;rw[←bN.out];have aR:some w.heap.size≠some mb:=fun e=>by injection e with e;have:=bB.out;omega
 have aS:some (w.heap.size+1)≠some mb:=fun e=>by injection e with e;have:=bB.out;omega
 have bQ:=kC.grown aJ aR;have aF:=kR.grown aJ aS;have bR:=Lib.hid (aZ.out.own aJ HN.out);have aT:=aF.canrt hz;have G2:w.grownBy w2 (some mb):=(S4 bP.out (Nat.le_refl _)).trans aJ;have aU:=Lib.hid G2;clear G2 aZ kC kR;cases ob with
 | false=>
  rw[show E2p false=60 from rfl];go_wp2_with fail;exact bodyPost_ret (I9 rfl (Ep (aF.putrt hz hz) hz rfl) (H9.tmp rfl)) rfl ⟨by rw[C3r,C1q,A5q];rfl,O8 aU.out (Nat.le_succ _) 0 _,HH.out.putNew aL (Nat.le_succ _) aU.out.size 0 _⟩
 | true=>
  rw[show E2p true=0 from rfl];have k0:=bQ.at_ (i:=0) rfl;have bS:=aL;have bC:By w2 0 w2.heap.size (.slice Ab 40 cb) x.body:=Sl.more bR.out.b aJ.size;go_wp2_with fail;refine (C4e _ x.body w2 bC (by rw[bA.out];simp[hh])).mono ?_;rintro e w3 ⟨g,rfl,hg,aV,b3⟩;have bT:=aF.below b3 aF.lt;rw[bA.out]at aV;clear k0 bC;go_wp2_with fail;refine (D0s g (J3 v++hb,0) w3 aV).mono ?_;rintro e w4 ⟨rfl,aM⟩;have e1:tkL 8 (J3 v++hb,0)=J3 v:=by unfold tkL;rw[if_pos ⟨rfl,by simp⟩];exact List.take_left' (Ic v)
  have e2:tkS 8 (J3 v++hb,0)=(hb,0):=by unfold tkS;rw[if_pos rfl,if_pos (by simp)];exact congrArg (fun l=>(l,(0:Int))) (List.drop_left' (Ic v))
  rw[e1,D6e];rw[e2]at aM;have b4:Below w2.heap.size w2 w4:=b3.grown aM.gr b3.size (fun k e=>by cases e;exact hg);have bD:=aM.rd;clear e1 e2 aM aV b3 bT;go_wp2_with fail;refine (C2j g (hb,0) w4 bD).mono ?_;rintro e w5 ⟨rfl,aN⟩;have e1:haL (hb,0)=hb:=by
   have:tkL 32 (hb,0)=hb:=by unfold tkL;rw[if_pos ⟨rfl,by simp[hh]⟩];exact List.take_of_length_le (by simp[hh])
   unfold haL;rw[this,if_neg (fun e=>by rw[e]at hh;cases hh)]
  have e2:tkS 32 (hb,0)=([],0):=by unfold tkS;rw[if_pos rfl,if_pos (by simp[hh])];exact congrArg (fun l=>(l,(0:Int))) (List.drop_eq_nil_of_le (by simp[hh]))
  rw[e1];rw[e2]at aN;have b5:Below w2.heap.size w2 w5:=b4.grown aN.gr b4.size (fun k e=>by cases e;exact hg);have bE:=aN.rd;clear e1 e2 aN bD b4;obtain⟨w6,aO⟩:∃z,z=C4 (w5.alloc (Obj.cells (c8 (z8 32)).toArray 35)) ⟨w5.heap.size,0,none⟩ (c8 hb):=⟨_,rfl⟩;have aW:Below w5.heap.size w5 w6:=by rw[aO];exact C0 ((Below.refl _ _).alloc (Nat.le_refl _) _) (Nat.le_refl _) _
  have bU:Bk w6 w5.heap.size 35 (c8 hb):=by rw[aO];exact (Bk.new w5 _ _).puts (by simp[hh])
  have aK:E7 (w5.alloc (Obj.cells (c8 (z8 32)).toArray 35)) ⟨w5.heap.size,0,none⟩ 32=true:=(Bk.new w5 _ _).can (by simp);have aX:=bE.up aW;have b6:=C1 b5 aW b5.size;have bF:=aF.below b6 aF.lt;have bW:=aL.up b6;have bG:=bU.row8 hh;have bH:=bF.canrt hz;have bI:=Lib.hid (aU.out.trans (S4 b6 (Nat.le_refl _)));clear aW b5 bE aL bS aT b6;go_wp2_with fail;rw[←aO];clear aO aK;refine (C2u g ([],0) w6 aX).mono ?_;rintro e w7 ⟨rfl,rfl⟩;rw[show rdn ([],0)=0 by rfl];have aY:Ni v=(decide (C8 v<1)||decide (2147483648≤C8 v)):=rfl;have aB:C8 v=(v.toNat:Int):=rfl;obtain⟨c1,bJ⟩:∃c,decide (C8 v<1)=c:=⟨_,rfl⟩;obtain⟨c2,bK⟩:∃c,decide (2147483648≤C8 v)=c:=⟨_,rfl⟩;rw[bJ,bK]at aY;have aG:=Lib.hid aY;clear aY;have bL:∀(n:Int) (h':List UInt8),h'.length=32→Bk (C4 w7 ⟨w.heap.size+1,0,none⟩ (Q9 n h')) (w.heap.size+1) 37 (Q9 n h')∧w.grownBy (C4 w7 ⟨w.heap.size+1,0,none⟩ (Q9 n h')) (some mb)∧Rg (C4 w7 ⟨w.heap.size+1,0,none⟩ (Q9 n h')) rb mb A q c K:=fun n h' hh'=>⟨bF.putrt hz hh',O8 bI.out (Nat.le_succ _) 0 _,HH.out.putNew bW (Nat.le_succ _) bI.out.size 0 _⟩
  have HF:=Lib.hid bL;clear bL;cases c1 with
  | true=>
   have aC:Ni v=true:=aG.out;have aA:=Lib.hid aC;clear aC;clear aB aG;go_wp2_with fail;obtain⟨f1,f2,f3⟩:=HF.out 0 (z8 32) hz;exact bodyPost_ret (I9 rfl (Ep f1 hz rfl) (H9.tmp rfl)) rfl ⟨by rw[C0d aA.out,B8f hb aA.out,A8l aA.out];rfl,f2,f3⟩
  | false=>
   cases c2 with
   | true=>
    have aC:Ni v=true:=aG.out;have aA:=Lib.hid aC;clear aC;clear aB aG;go_wp2_with fail;obtain⟨f1,f2,f3⟩:=HF.out 0 (z8 32) hz;exact bodyPost_ret (I9 rfl (Ep f1 hz rfl) (H9.tmp rfl)) rfl ⟨by rw[C0d aA.out,B8f hb aA.out,A8l aA.out];rfl,f2,f3⟩
   | false=>
    have aC:Ni v=false:=aG.out;have aA:=Lib.hid aC;clear aC;have hw:IntKind.i64.wrap (C8 v)=C8 v:=IntWalk.i64_in _ (by
     have:=of_decide_eq_false bJ;have:=of_decide_eq_false bK;rw[aB]at *;omega)
    have bM:rtL (C8 v) hb=33:=Y5 hh;clear aB aG;go_wp2_with fail;obtain⟨f1,f2,f3⟩:=HF.out (C8 v) hb hh;exact bodyPost_ret (I9 rfl (Ep f1 hh rfl) (H9.tmp rfl)) rfl ⟨by rw[B5o aA.out,C5f hb aA.out,B5w aA.out];rfl,f2,f3⟩
end
end
end Go.Proofs.YtdfpoofbgjilgaaGreat
