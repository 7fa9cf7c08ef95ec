/- A part of the proof of ClientForks. -/
import Derived.Test.YtdfpoofbgjilgaaGreatVbn
import Derived.Test.YtdfpoofbgjilgaaGreatVbo
set_option linter.unusedVariables false
set_option linter.unusedSimpArgs false
set_option maxRecDepth 100000
set_option maxHeartbeats 40000000
namespace Go.Proofs.YtdfpoofbgjilgaaGreat
open Go Go.RowKit Sh
section
def Ce (n1:Int) (l1:List UInt8) (e1 n2:Int) (l2:List UInt8) (e2:Int):Bool:=(e1 != 0)||((e2 != 0)||((n1==0)||((n1 != n2)||((n1==n2)&&(l1==l2)))))
def Ck (a b:List Int):List Int:=a.filter fun x=>decide (x∈b)
theorem B4e {a b:List Int} {j:Nat} {x:Int} (h:a[j]?=some x):Ck (a.take (j+1)) b=Ck (a.take j) b++if x∈b then [x] else []:=by
 unfold Ck;rw[List.take_add_one,h,List.filter_append];by_cases hx:x∈b<;>simp[hx]
theorem Sf (a b:List Int):(Ck a b).length≤a.length:=List.length_filter_le _ _
theorem A0q (A1 A2 A3 D1 D2 D3:Option Addr) (n1 c1 n2 c2 n3 c3 m1 d1 m2 d2 m3 d3:Nat) (h1:0<n1) (h2:n1+n2+n3≤10000000) (h3:0<m1) (h4:m1+m2+m3≤10000000) (w:World) :
 Calls Tryz.prog 10 #[.pointer none,.agg #[.slice A1 n1 c1,.slice A2 n2 c2,.slice A3 n3 c3],.agg #[.slice D1 m1 d1,.slice D2 m2 d2,.slice D3 m3 d3]] w fun x w'=>x=.returned (.tuple #[.slice none 0 0,.bool false])∧Below w.heap.size w w':=by
 obtain⟨W0,aA⟩:∃z,z=(w.alloc (Obj.cells #[.slice A1 n1 c1,.slice A2 n2 c2,.slice A3 n3 c3] 33)).alloc (Obj.cells #[.slice D1 m1 d1,.slice D2 m2 d2,.slice D3 m3 d3] 33):=⟨_,rfl⟩;have hL:W0=Q6 w [(33,[.slice A1 n1 c1,.slice A2 n2 c2,.slice A3 n3 c3]),(33,[.slice D1 m1 d1,.slice D2 m2 d2,.slice D3 m3 d3])]:=aA;have kA:Bk W0 w.heap.size 33 [.slice A1 n1 c1,.slice A2 n2 c2,.slice A3 n3 c3]:=by rw[hL];exact E0 _ w 0 _ _ rfl
 have kD:Bk W0 (w.heap.size+1) 33 [.slice D1 m1 d1,.slice D2 m2 d2,.slice D3 m3 d3]:=by rw[hL];exact E0 _ w 1 _ _ rfl
 have B0:Below w.heap.size w W0:=by rw[hL];exact H6 _ _
 have hz:(z8 32).length=32:=I1 32;have aG:rtL 0 (z8 32)=33:=Y5 hz;have a0:=kA.at_ (i:=0) rfl;have a1:=kA.at_ (i:=1) rfl;have a2:=kA.at_ (i:=2) rfl;rw[aA]at a0 a1 a2;go_enter Tryz.func10,Tryz.ntmps10;go_wp2_with fail;rw[←aA];clear aA hL a0 a1 a2;refine (Ph A1 A2 A3 n1 c1 n2 c2 n3 c3 h1 h2 W0).mono ?_;rintro x w1 ⟨rfl,b1⟩;have aC:=kD.below b1 kD.lt;have B1:=C1 B0 b1 B0.size;have aE:=(Bk.new w1 37 (Q9 0 (z8 32))).canrt hz;obtain⟨w2,aB⟩:∃z,z=C4 (w1.alloc (Obj.cells (Q9 0 (z8 32)).toArray 37)) ⟨w1.heap.size,0,none⟩ (Q9 0 (z8 32)):=⟨_,rfl⟩;have b2:Below w1.heap.size w1 w2:=by rw[aB];exact C0 ((Below.refl _ _).alloc (Nat.le_refl _) _) (Nat.le_refl _) _
 have aD:=aC.below b2 aC.lt;have B2:=C1 B1 b2 B1.size;have a0:=aD.at_ (i:=0) rfl;have a1:=aD.at_ (i:=1) rfl;have a2:=aD.at_ (i:=2) rfl;rw[aB]at a0 a1 a2;clear kD aC b1 b2 B0 B1;go_wp2_with fail;rw[←aB];clear aB aE a0 a1 a2;refine (Ph D1 D2 D3 m1 d1 m2 d2 m3 d3 h3 h4 w2).mono ?_;rintro x w3 ⟨rfl,b3⟩;have B3:=C1 B2 b3 B2.size;have aE:=(Bk.new w3 37 (Q9 0 (z8 32))).canrt hz;obtain⟨w4,aF⟩:∃z,z=C4 (w3.alloc (Obj.cells (Q9 0 (z8 32)).toArray 37)) ⟨w3.heap.size,0,none⟩ (Q9 0 (z8 32)):=⟨_,rfl⟩;have b4:Below w3.heap.size w3 w4:=by rw[aF];exact C0 ((Below.refl _ _).alloc (Nat.le_refl _) _) (Nat.le_refl _) _
 have B4:=C1 B3 b4 B3.size;go_wp2_with fail;rw[←aF];go_ret2
 exact ⟨rfl,B4⟩
section
variable {w w' : World} {rb mb q c : Nat} {A : Option Addr} {K : List (List UInt8)}
theorem Sy (h:Rg w rb mb A q c K) (A1 A2 A3 D1 D2 D3:Option Addr) (n1 c1 n2 c2 n3 c3 m1 d1 m2 d2 m3 d3:Nat) (i1 i2:Int) (l1 l2:List UInt8) (e1 e2:Int) (hl1:l1.length=32) (hl2:l2.length=32)
 (hc1:RtC rb mb A q c K w (.agg #[.slice A1 n1 c1,.slice A2 n2 c2,.slice A3 n3 c3]) i1 l1 e1) (hc2:RtC rb mb A q c K w (.agg #[.slice D1 m1 d1,.slice D2 m2 d2,.slice D3 m3 d3]) i2 l2 e2)
 (za zb:List Int) (hza:Ns w w.heap.size (.slice A2 n2 c2) za) (hzb:Ns w w.heap.size (.slice D2 m2 d2) zb) (hn2:n2≤1000) (hzl:za.length=n2) :
 Calls Tryz.prog 10 #[.pointer (some ⟨rb,0,none⟩),.agg #[.slice A1 n1 c1,.slice A2 n2 c2,.slice A3 n3 c3],.agg #[.slice D1 m1 d1,.slice D2 m2 d2,.slice D3 m3 d3]] w fun x w'=>
  ((Ce i1 l1 e1 i2 l2 e2=true∧x=.returned (.tuple #[.slice none 0 0,.bool false]))∨(Ce i1 l1 e1 i2 l2 e2=false∧∃v,x=.returned (.tuple #[v,.bool true])∧Ns w' w'.heap.size v (Ck za zb)))∧w.grownBy w' (some mb)∧Rg w' rb mb A q c K:=by
 obtain⟨W0,aM⟩:∃z,z=(w.alloc (Obj.cells #[.slice A1 n1 c1,.slice A2 n2 c2,.slice A3 n3 c3] 33)).alloc (Obj.cells #[.slice D1 m1 d1,.slice D2 m2 d2,.slice D3 m3 d3] 33):=⟨_,rfl⟩;have hL:W0=Q6 w [(33,[.slice A1 n1 c1,.slice A2 n2 c2,.slice A3 n3 c3]),(33,[.slice D1 m1 d1,.slice D2 m2 d2,.slice D3 m3 d3])]:=aM;have kA:Bk W0 w.heap.size 33 [.slice A1 n1 c1,.slice A2 n2 c2,.slice A3 n3 c3]:=by rw[hL];exact E0 _ w 0 _ _ rfl
 have kD:Bk W0 (w.heap.size+1) 33 [.slice D1 m1 d1,.slice D2 m2 d2,.slice D3 m3 d3]:=by rw[hL];exact E0 _ w 1 _ _ rfl
 have B0:Below w.heap.size w W0:=by rw[hL];exact H6 _ _
 have hz:(z8 32).length=32:=I1 32;have bX:rtL i1 l1=33:=Y5 hl1;have bY:rtL i2 l2=33:=Y5 hl2;have bZ:=h.mlt;have aF:some w.heap.size≠some mb:=fun e=>by injection e with e;omega
 have aG:some (w.heap.size+1)≠some mb:=fun e=>by injection e with e;omega
 have a0:=kA.at_ (i:=0) rfl;have a1:=kA.at_ (i:=1) rfl;have a2:=kA.at_ (i:=2) rfl;rw[aM]at a0 a1 a2;have HH:=Lib.hid h;have bC:=Lib.hid hc1;have bD:=Lib.hid hc2;have bE:=Lib.hid hza;have bF:=Lib.hid hzb;have bG:=Lib.hid hzl;have bH:=h.up B0;have G0:w.grownBy W0 (some mb):=S4 B0 (Nat.le_refl _);clear h hc1 hc2 hza hzb bZ hzl hL;go_enter Tryz.func10,Tryz.ntmps10;go_wp2_with fail;rw[←aM];clear aM a0 a1 a2;refine (bC.out W0 G0 bH).mono ?_;rintro x w1 ⟨rfl,g1,aN⟩;have aO:=kA.grown g1 aF;have aP:=kD.grown g1 aG;have G1:=G0.trans g1;have aQ:=(Bk.new w1 37 (Q9 0 (z8 32))).canrt hz;obtain⟨w2,aH⟩:∃z,z=C4 (w1.alloc (Obj.cells (Q9 0 (z8 32)).toArray 37)) ⟨w1.heap.size,0,none⟩ (Q9 i1 l1):=⟨_,rfl⟩;have b2:Below w1.heap.size w1 w2:=by rw[aH];exact C0 ((Below.refl _ _).alloc (Nat.le_refl _) _) (Nat.le_refl _) _
 have bI:Bk w2 w1.heap.size 37 (Q9 i1 l1):=by rw[aH];exact (Bk.new w1 37 (Q9 0 (z8 32))).putrt hz hl1
 have bJ:=aO.below b2 aO.lt;have aI:=aP.below b2 aP.lt;have G2:=G1.trans (S4 b2 (Nat.le_refl _));have bK:=aN.up b2;have cA:=aN.mlt;have a0:=aI.at_ (i:=0) rfl;have a1:=aI.at_ (i:=1) rfl;have a2:=aI.at_ (i:=2) rfl;rw[aH]at a0 a1 a2;clear kA kD aO aP g1 G0 G1 b2 B0 bH aN;go_wp2_with fail;rw[←aH];clear aH aQ a0 a1 a2;refine (bD.out w2 G2 bK).mono ?_;rintro x w3 ⟨rfl,g3,bL⟩;have aR:=bJ.grown g3 aF;have aS:=aI.grown g3 aG;have aT:=bI.grown g3 (fun e=>by injection e with e;omega);have G3:=G2.trans g3;have aQ:=(Bk.new w3 37 (Q9 0 (z8 32))).canrt hz;obtain⟨w4,aB⟩:∃z,z=C4 (w3.alloc (Obj.cells (Q9 0 (z8 32)).toArray 37)) ⟨w3.heap.size,0,none⟩ (Q9 i2 l2):=⟨_,rfl⟩;have b4:Below w3.heap.size w3 w4:=by rw[aB];exact C0 ((Below.refl _ _).alloc (Nat.le_refl _) _) (Nat.le_refl _) _
 have kQ:Bk w4 w3.heap.size 37 (Q9 i2 l2):=by rw[aB];exact (Bk.new w3 37 (Q9 0 (z8 32))).putrt hz hl2
 have cB:=aR.below b4 aR.lt;have bM:=aS.below b4 aS.lt;have kP:=aT.below b4 aT.lt;have hG:=G3.trans (S4 b4 (Nat.le_refl _));have hR:=bL.up b4;have p0:=Fg kP;have q0:=Fg kQ;have pr:=kP.rowrt hl1;have qr:=kQ.rowrt hl2;rw[aB]at p0 q0 pr qr;obtain⟨t1,cC⟩:∃t,(e1 != 0)=t:=⟨_,rfl⟩;obtain⟨t2,cD⟩:∃t,(e2 != 0)=t:=⟨_,rfl⟩;obtain⟨t3,cE⟩:∃t,(i1==0)=t:=⟨_,rfl⟩;obtain⟨t4,bN⟩:∃t,(i1 != i2)=t:=⟨_,rfl⟩;obtain⟨t5,bO⟩:∃t,(i1==i2)=t:=⟨_,rfl⟩;obtain⟨t6,cF⟩:∃t,(l1==l2)=t:=⟨_,rfl⟩;have bP:Ce i1 l1 e1 i2 l2 e2=(t1||(t2||(t3||(t4||(t5&&t6))))):=by unfold Ce;rw[cC,cD,cE,bN,bO,cF]
 have aE:=Lib.hid bP;clear bP bJ aI aR aS bI aT g3 G2 G3 b4 bK bL bC bD;cases t1 with
 | true=>
  go_wp2_with fail;rw[←aB];go_ret2
  exact ⟨.inl ⟨aE.out,rfl⟩,hG,hR⟩
 | false=>
  cases t2 with
  | true=>
   go_wp2_with fail;rw[←aB];go_ret2
   exact ⟨.inl ⟨aE.out,rfl⟩,hG,hR⟩
  | false=>
   cases t3 with
   | true=>
    go_wp2_with fail;rw[←aB];go_ret2
    exact ⟨.inl ⟨aE.out,rfl⟩,hG,hR⟩
   | false=>
    cases t4 with
    | true=>
     go_wp2_with fail;rw[←aB];go_ret2
     exact ⟨.inl ⟨aE.out,rfl⟩,hG,hR⟩
    | false=>
     have aU:t5=true:=by rw[←bO];simpa using bN
     subst aU;cases t6 with
     | true=>
      go_wp2_with fail;rw[←aB];go_ret2
      exact ⟨.inl ⟨aE.out,rfl⟩,hG,hR⟩
     | false=>
      have s1:=cB.at_ (i:=1) rfl;rw[aB]at s1;go_wp2_with fail;rw[←aB];clear aB aQ p0 q0 pr qr s1;have bQ:Ce i1 l1 e1 i2 l2 e2=false:=aE.out;have cG:=Lib.hid bQ;have aJ:Ns w4 w4.heap.size (.slice A2 n2 c2) za:=(let ⟨A,c,h1,h2,h3,h4⟩:=bE.out;⟨A,c,h1,h2,h3,(Fp h4 hG HH.out.mp.notCells).more hG.size⟩);have aK:Ns w4 w4.heap.size (.slice D2 m2 d2) zb:=(let ⟨A,c,h1,h2,h3,h4⟩:=bF.out;⟨A,c,h1,h2,h3,(Fp h4 hG HH.out.mp.notCells).more hG.size⟩);have aV:=Lib.hid aJ;have aW:=Lib.hid aK;have HG:=Lib.hid hG;have HR:=Lib.hid hR;clear bQ aJ aK bE bF aE hG hR kP kQ;go_loopw [12,14,53] (fun ov _ xv wr=>∃j:Nat,xv=.int .i64 (j:Int)∧j≤n2∧Fz wr w4.heap.size ov (Ck (za.take j) zb)∧Below w4.heap.size w4 wr) (fun _ _ xv _=>n2-(intOf xv).toNat)
      case atStart=>exact ⟨0,rfl,by omega,by simpa [Ck] using Fz.nil w4 w4.heap.size,Below.refl _ _⟩
      case round=>
       obtain⟨j,rfl,hj,ho,b⟩:=hrel;by_cases hlt:j<n2
       ·have hd:decide ((j:Int)<(n2:Int))=true:=decide_eq_true (by omega);have cH:decide (j<n2)=true:=decide_eq_true hlt;have cP:IntKind.i64.wrap ((j:Int)+1)=(j:Int)+1:=IntWalk.i64_in _ (by omega);obtain⟨x,hx⟩:∃x,za[j]?=some x:=⟨_,List.getElem?_eq_getElem (by rw[bG.out];exact hlt)⟩;obtain⟨g,o,rfl,hg,aC⟩:=aV.out.at_ hx;have aC:=(b.cell (p:=⟨g,o+j,none⟩) hg).trans aC;have bR:=B4e (b:=zb) hx;have bS:=Lib.hid bR;have s1:=(bM.below b bM.lt).at_ (i:=1) rfl;clear hx bR;go_wp2_with fail;refine (A3f _ zb x wr (let ⟨A,c,h1,h2,h3,h4⟩:=aW.out;⟨A,c,h1,h2,h3,(h4.below b).more b.size⟩)).mono ?_;rintro e w5 ⟨rfl,b5⟩;have aX:=C1 b b5 b.size;by_cases hm:x∈zb
        ·have aL:decide (x∈zb)=true:=decide_eq_true hm;have aD:=ho.below b5 (Nat.le_refl _);have aA:Ck (za.take (j+1)) zb=Ck (za.take j) zb++[x]:=by rw[bS.out,if_pos hm]
         obtain⟨L,hL⟩:∃L,L=Ck (za.take j) zb:=⟨_,rfl⟩;have cI:L.length≤n2:=by rw[hL];exact Nat.le_trans (Sf _ _) (by rw[List.length_take];omega)
         rw[←hL]at aD aA;have cJ:=Lib.hid aA;obtain⟨Ao,co,rfl,-,-⟩:=aD.form;have aY:∀u∈[Value.int .i64 x],u.oneCell'=true:=fun u hu=>by rw[List.mem_singleton.1 hu];rfl
         have aZ:w5.ownsRow w4.heap.size 3 1 (.slice Ao L.length co) L.length (L.map (Value.int .i64)):=aD;have z5:=aX.size;obtain⟨ln,bA⟩:∃y,y=L.length:=⟨_,rfl⟩;have bT:L.length+1≤68719476736:=by omega
         rw[←bA]at aZ bT ⊢;have cK:=Lib.hid bA;clear ho aD aA hL hm bA cI;rw[aL];clear aL;go_wp2_with (at_builtin;refine A8f 30 3 (.int .i64 0) 1 8 Tryz.underlying30 C8e rfl (by decide) (by decide) rfl _ _ rfl rfl aZ [.int .i64 x] rfl aY _ rfl rfl rfl bT z5 ?_;intro A6 c6 w6 cQ cR bU bW cL bB);have cM:Fz w6 w4.heap.size (.slice A6 (ln+1) c6) (Ck (za.take (j+1)) zb):=by
          unfold Fz;rw[cJ.out,List.length_append,List.length_singleton,List.map_append,←cK.out];exact bU
         have cN:=aX.trans bW;clear bU bW cL bB aZ;go_wp2_with fail;go_roundw;case rel=>exact ⟨j+1,by simp,by omega,cM,cN⟩
         case measure=>simp[intOf];omega
        ·have aL:decide (x∈zb)=false:=decide_eq_false hm;have aD:=ho.below b5 (Nat.le_refl _);rw[aL];have aA:Ck (za.take (j+1)) zb=Ck (za.take j) zb:=by rw[bS.out,if_neg hm,List.append_nil]
         rw[←aA]at aD;have cO:=Lib.hid aD;clear hm aL ho aD aA;go_wp2_with fail;go_roundw;case rel=>exact ⟨j+1,by simp,by omega,cO.out,aX⟩
         case measure=>simp[intOf];omega
       ·have hd:decide ((j:Int)<(n2:Int))=false:=decide_eq_false (by omega);have cH:decide (j<n2)=false:=decide_eq_false hlt;obtain rfl:j=n2:=by omega
        rw[List.take_of_length_le (by rw[bG.out];exact Nat.le_refl _)]at ho;have HO:=Lib.hid ho;clear ho;go_wp2_with fail;go_ret2
        exact ⟨.inr ⟨cG.out,_,rfl,HO.out.ns⟩,HG.out.trans (S4 b (Nat.le_refl _)),HR.out.up b⟩
end
end
section
theorem D5k (s n:Nat):(Jt s n).Pairwise (· < ·):=by
 unfold Jt;rw[List.pairwise_map];exact List.Pairwise.imp (fun h=>by omega) List.pairwise_lt_range
section
variable {w w' : World} {rb mb q c : Nat} {A : Option Addr} {K : List (List UInt8)}
theorem RtC.of (h:Rg w rb mb A q c K) {bv sv gv:Value} {x:Ct} (hx:CtV w w.heap.size bv sv gv x) (s m:Nat) (hS:x.by_=Ef s m) (hm:m=2*(q / 3)+1) (hGl:x.sigs.length=m) (hsq:s+m≤q) (v:UInt64) (hb:List UInt8) (hh:hb.length=32) (hbd:x.body=J3 v++hb) :
 RtC rb mb A q c K w (.agg #[bv,sv,gv]) (Th (Q5 K 5 x.body (Jt s m) x.sigs) v) (Xt (Q5 K 5 x.body (Jt s m) x.sigs) v hb) (rtE (Q5 K 5 x.body (Jt s m) x.sigs) v):=fun W hg hR=>
 C1c hR bv sv gv x ((hx.own hg h.mp.notCells).more hg.size) (Jt s m) hS m hm (Oa s m) hGl (D5k s m) (fun i hi=>by have:=(C9a.1 hi).2;omega) v hb hh hbd
theorem GrX.bk {X:List Nat} {b:Nat} {T:TypeId} {cs:List Value} (h:GrX X w w') (hk:Bk w b T cs) (hb:b∉X):Bk w' b T cs:=(h.block b hk.lt hb).trans hk
end
theorem Cw.atT {w:World} {x:Int} {ap:Option Addr} {mb:Option Nat} {e N:Nat} {L:List En} {t:Tr} (h:Cw w (.agg #[.int .i64 x,.pointer ap,.int .i64 0,.map mb]) e L N) (ht:IsTree t L):At w w.heap.size t (.pointer ap):=by
 obtain⟨aA,mv,m,s,h1,h2,h3,h4,h5,h6,h7⟩:=h;have h8:=congrArg (fun v=>match v with | .agg a=>a.toList | _=>[]) h1;simp at h8;obtain rfl:=ht.uniq ⟨h5,h6⟩;rw[h8.2.1];exact h7
theorem Yz:U8 1=1:=by decide
theorem A6n {t:Tr} (ht:IsTree t [(u1.id,[h1 2])]):t.root=Rj:=by
 have h:t=.lf u1.id (Ah [h1 2]):=C2v ht.ok (ht.prs.trans (by unfold pairsE;rw[List.map_cons,List.map_nil]));rw[h,F0h];exact D6w
theorem D2v:Q5 (Eg 1) 5 (J3 (U8 1)++Rj) (Jt 0 1) (wgL (Z7 1 2) 5 (J3 (U8 1)++Rj) 0 1)=true:=by
 rw[Yz];have e1:Jt 0 1=[0]:=rfl;have e2:Z7 1 2=[Hh 1 2 7]:=rfl;unfold wgL Eg;rw[e1,e2];simp only[List.map_cons,List.map_nil,Q5,Bool.and_true];unfold Jf;simp only[List.getD_cons_zero];exact F7d
attribute [local go_sem ↓ high] Hl Vd
theorem B7d (w:World):Calls Tryz.prog 6 #[] w fun x w'=>x=.returned (.bool true)∧Below w.heap.size w w':=by
 have eF:=C5p;have bP:=C8j 0 1 (by omega) rfl w;rw[show ((0:Nat):Int)=0 from rfl]at bP;go_enter Tryz.func6,Tryz.ntmps6;go_wp2_with fail;refine bP.mono ?_;rintro x w1 ⟨rv,sv,rfl,bQ,b1,hr⟩;clear bP;rcases hr with ⟨_,h1⟩ | ⟨rb,mb,A,c,rfl,zrb,zmb,hR⟩
 ·exact absurd rfl h1
 obtain⟨As,cs,rfl,-,-⟩:=bQ.form;rw[T8]at *;have cJ:=Lib.hid bQ;clear bQ;go_wp2_with fail;refine (C8a (h1 1) 1 (h1 2) (X7 1) (X7 2) w1).mono ?_;rintro x w2 ⟨rfl,b2⟩;rw[E0d];obtain⟨u,hu⟩:∃u,u=u1:=⟨_,rfl⟩;have aT:u.Ok:=by rw[hu];exact F1y
 have cK:Hid (applyE [u] []=[(u.id,[h1 2])]):=Lib.hid (by rw[hu];exact B0y);have aU:Hid (lookE [(u.id,[h1 2])] u.id=[h1 2]):=Lib.hid (by rw[hu];exact B6t);have cL:Hid (∀ {t:Tr},IsTree t [(u.id,[h1 2])]→t.root=Rj):=Lib.hid (by rw[hu];exact A6n);rw[←hu];clear hu;have cM:=aT.len;have bR:=aT.id;have aB:=(Bk.new w2 48 (Cj (uvz 129))).canvc (n:=129) (Vq _).len;obtain⟨w3,aF⟩:∃x,x=C4 (w2.alloc (Obj.cells (Cj (uvz 129)).toArray 48)) ⟨w2.heap.size,0,none⟩ (Cj u):=⟨_,rfl⟩;have ku:Bk w3 w2.heap.size 48 (Cj u):=by rw[aF];exact (Bk.new w2 48 (Cj (uvz 129))).putvc (n:=129) (Vq _).len cM
 have b3:Below w2.heap.size w2 w3:=by rw[aF];exact C0 ((Below.refl _ _).alloc (Nat.le_refl _) _) (Nat.le_refl _) _
 have B3:=C1 b2 b3 b2.size;have bS:w3.heap.size=w2.heap.size+1:=by rw[aF];simp
 have r3:=ku.rowvc (n:=129) cM;rw[aF]at r3;go_wp2_with fail;rw[←aF];clear aF aB r3 b3;have bS:=Lib.hid bS;generalize w2.heap.size=gu at *;have B4:=B3.alloc B3.size (Obj.cells (Cj u).toArray 48);have bT:=ku.alloc (Obj.cells (Cj u).toArray 48);refine (B7m _ 0 [] 0 [u] _ (w3.alloc (Obj.cells (Cj u).toArray 48)) (Cw.nil _) (E1y w3 bS.out aT) (by omega) (by simp) (by simp) (fun x=>by simp[lookE])).mono ?_;rintro x w5 ⟨dv,rfl,hD,b5⟩;have hD:Cw w5 dv 1 [(u.id,[h1 2])] 1:=by rw[←cK.out];exact hD
 obtain⟨ap,db,rfl⟩:=hD.form;rw[show ((1:Nat):Int)=1 from rfl]at hD ⊢;have B5:=C1 B4 b5 B4.size;have bU:=bT.below b5 bT.lt;clear b5 bT B4 ku B3 b2;have k0:=Bk.new w5 56 [.int .i64 0,.pointer none,.int .i64 0,.map none];have aB:E7 (w5.alloc (Obj.cells #[.int .i64 0,.pointer none,.int .i64 0,.map none] 56)) ⟨w5.heap.size,0,none⟩ 4=true:=k0.can (by simp);obtain⟨w6,aV⟩:∃x,x=C4 (w5.alloc (Obj.cells #[.int .i64 0,.pointer none,.int .i64 0,.map none] 56)) ⟨w5.heap.size,0,none⟩ [.int .i64 1,.pointer ap,.int .i64 0,.map db]:=⟨_,rfl⟩;have kd:Bk w6 w5.heap.size 56 [.int .i64 1,.pointer ap,.int .i64 0,.map db]:=by rw[aV];exact k0.puts (by simp)
 have b6:Below w5.heap.size w5 w6:=by rw[aV];exact C0 ((Below.refl _ _).alloc (Nat.le_refl _) _) (Nat.le_refl _) _
 have cN:=hD.up b6;have aW:=bU.below b6 bU.lt;have B6:=C1 B5 b6 B5.size;clear k0 hD bU B5 b6 eF;have aX:=hR.up B6;have aH:=Lib.hid ((cJ.out.below B6).more B6.size);have cO:=C1 b1 B6 b1.size;have eW:mb<w6.heap.size:=aX.mlt;clear hR cJ B6;go_wp2_with fail;rw[←aV];clear aV aB;obtain⟨gd,cP⟩:∃y,y=w5.heap.size:=⟨_,rfl⟩;rw[←cP]at kd ⊢;have eG:=kd.lt;have eH:=aW.lt;clear cP;refine (C9j ⟨rb,0,none⟩ w6).mono ?_;rintro x w7 ⟨g,kb,rfl,cQ,cR,eI,eJ,cS,bW,b7⟩;have cT:=cN.up b7;have bX:=aW.below b7 aW.lt;have bY:=kd.below b7 kd.lt;have cU:=aX.up b7;have aI:=Lib.hid ((aH.out.below b7).more b7.size);clear aH aW kd;go_wp2_with fail;have S0:Below w7.heap.size w7 w7.drew:=(Below.refl _ _).drew;have aY:=cT.up S0;have aZ:=bX.below S0 bX.lt;have bA:=bY.below S0 bY.lt;have cV:=cU.up S0;have cW:=cS.below S0 (Nat.le_refl _);have bZ:=bW.below S0 bW.lt;have b8:=C1 b7 S0 b7.size;have aJ:=Lib.hid ((aI.out.below S0).more S0.size);obtain⟨t,ht⟩:=aY.tree;have aK:At w6 w6.heap.size t (.pointer ap):=cN.atT ht;have cX:=cL.out ht;have aG:t.root.length=32:=t.root_length;have HT:=Lib.hid ht;have eK:=Lib.hid cX;have eL:=Lib.hid aK;clear cT bX bY cU cS bW b7 S0 aI ht cX aK cL cK;refine E3 (fun X=>Bk X gd 56 [.int .i64 1,.pointer ap,.int .i64 0,.map db]∧Bk X gu 48 (Cj u)) (by kernel_rfl) ?_
 refine C5 (A:=?eX) [0,1,2,5,6,7,8,9] (by kernel_rfl) (by kernel_rfl) rfl (by kernel_rfl) (by kernel_rfl) ⟨bA,aZ⟩ (h:=fun X hX=>?eM) (hr:=?eY);case eM=>
  have f1:D9 X ⟨gd,0,none⟩ 4=some [.int .i64 1,.pointer ap,.int .i64 0,.map db]:=hX.1.rows;have f2:=UV.loadid hX.2 aT;simp only[pick,List.getElem?_cons_zero,List.getElem?_cons_succ];repeat (go_big_quiet_step (fail))
  refine wpQuiet_nil ?_;rfl
 refine C3 3 (by kernel_rfl) (by rfl) (by kernel_rfl) (fun Q' hQ'=>?_);dsimp only[E5];have aA:=Lib.hid hQ';clear hQ';go_wp2_with fail;refine (C9f aY HT.out).mono ?_;rintro x w9 ⟨rfl,b9⟩;have cY:=aY.up b9;have bB:=aZ.below b9 aZ.lt;have bC:=bA.below b9 bA.lt;have cZ:=cV.up b9;have dC:=cW.below b9 (Nat.le_refl _);have cA:=bZ.below b9 bZ.lt;have cB:=C1 b8 b9 b8.size;have aL:=Lib.hid ((aJ.out.below b9).more b9.size);clear aY aZ bA cV cW bZ b8 b9 aJ;go_wp2_with fail;refine aA.out _ _ ⟨bC,bB⟩ ?_;clear aA;refine C3 4 (by kernel_rfl) (by rfl) (by kernel_rfl) (fun Q' hQ'=>?_);dsimp only[E5];have aA:=Lib.hid hQ';clear hQ';go_wp2_with fail;refine (Re _ (Z7 1 2) 0 1 (by omega) rfl (T8 1 2) aL.out 0 1 t.root aG 0 1 rfl rfl).mono ?_;rintro x wa ⟨bv,eZ,gv,rfl,hx,ba⟩;have cC:=cY.up ba;have bD:=bB.below ba bB.lt;have bE:=bC.below ba bC.lt;have dD:=cZ.up ba;have dF:=dC.below ba (Nat.le_refl _);have cD:=cA.below ba cA.lt;have cE:=C1 cB ba cB.size;obtain⟨A1,c1,A2,c2,A3,c3,e1,e2,e3⟩:=hx.form;have dG:(J3 (U8 1)++t.root).length=40:=by simp[aG]
 rw[Q1]at e2;rw[Bx]at e3;simp only[dG]at e1;subst e1 e2 e3;have HX:=Lib.hid hx;clear cY bB bC cZ dC cA cB ba aL hx dG;go_wp2_with fail;refine aA.out _ _ ⟨bE,bD⟩ ?_;clear aA;refine C3 10 (by kernel_rfl) (by rfl) (by kernel_rfl) (fun Q' hQ'=>?_);dsimp only[E5];have aA:=Lib.hid hQ';clear hQ';go_wp2_with fail;refine (B7v cC HT.out u.id bR (by rw[aU.out];decide) (by simp)).mono ?_;rintro x wb ⟨kv,pv,rfl,bF,bG,bb⟩;rw[aU.out]at bF;obtain⟨Ak,ck,rfl,-,-⟩:=bF.form;obtain⟨Av,cv,rfl,-,-⟩:=bG.form;rw[show [h1 2].length=1 from rfl]at *;obtain⟨nv,dI⟩:∃y,y=(t.cut [u.id] 0).bytes.length:=⟨_,rfl⟩;rw[←dI]at bG ⊢;have okE:=cC.okE;have bH:=bD.below bb bD.lt;have bI:=bE.below bb bE.lt;have aC:=dD.up bb;have dJ:=dF.below bb (Nat.le_refl _);have dK:=cD.below bb cD.lt;have dL:=C1 cE bb cE.size;have dM:=Lib.hid ((HX.out.below bb).more bb.size);have bJ:=Lib.hid bF;have dO:=Lib.hid bG;have eN:=Lib.hid okE;have eO:=bb.size;clear cC bD bE dD dF cD cE bb HX bF bG okE dI;go_wp2_with fail;refine aA.out _ _ ⟨bI,bH⟩ ?_;clear aA;refine C3 11 (by kernel_rfl) (by rfl) (by kernel_rfl) (fun Q' hQ'=>?_);dsimp only[E5];have aA:=Lib.hid hQ';clear hQ';have dQ:Q5 (Eg 1) 5 (J3 (U8 1)++t.root) (Jt 0 1) (wgL (Z7 1 2) 5 (J3 (U8 1)++t.root) 0 1)=true:=by rw[eK.out];exact D2v
 have dS:RtC rb mb A 1 c (Eg 1) wb (.agg #[.slice A1 40 c1,.slice A2 1 c2,.slice A3 1 c3]) 1 t.root 0:=by
  have h:=RtC.of aC dM.out 0 1 rfl rfl (Bx _ _ _ _ _) (by omega) (U8 1) t.root aG rfl;simp only at h;rw[dQ]at h;have aD:Ni (U8 1)=false:=by rw[Yz];decide
  rw[B5o aD,C5f _ aD,B5w aD,Yz]at h;exact h
 have dT:syE 1 t.root 0 0 (z8 32)=0:=rfl;go_wp2_with fail;refine (B0g aX dL.size aC dK (I1 32) dJ eJ cQ cR A1 A2 A3 40 c1 1 c2 1 c3 1 t.root 0 aG dS dT u.id bR Ak Av ck nv cv (h1 2) eO bJ.out ?hd).mono ?_;case hd=>
  intro W hW;have h1:=bJ.out.kept hW (Sm bJ.out (aC.mp.notCells mb rfl));have h2:By W 0 W.heap.size (.slice Av nv cv) (t.cut [u.id] 0).bytes:=by
   obtain⟨P,q,e,i1,i2,i3⟩:=dO.out.up;exact ⟨P,q,e,i1,i2,(Fp i3 hW aC.mp.notCells).more hW.size⟩
  exact C4c HT.out eN.out u.id bR (by rw[aU.out];decide) _ _ (by rw[aU.out];exact h1.hs.less (Nat.zero_le _)) h2
 rintro x wc ⟨Au,cu,rfl,bK,dU,cF⟩;have dW:w6.grownBy wb (some mb):=S4 dL (Nat.le_refl _);have bL:w6.grownBy wc (some mb):=bK.grown dW (fun x hx hne=>by
  simp only[List.mem_cons,List.not_mem_nil,or_false]at hx;rcases hx with rfl | rfl | rfl
  ·exact absurd rfl hne
  ·exact cQ
  ·exact cR)
 have bM:=aC.apart bI;have eP:=aC.apart bH;have aM:=bK.bk bI (by simp only[List.mem_cons,List.not_mem_nil,or_false];omega);have cG:=bK.bk bH (by simp only[List.mem_cons,List.not_mem_nil,or_false];omega);have aN:At wc wc.heap.size t (.pointer ap):=At.more bL.size (A2b bL aX.mp.notCells eL.out);have aO:=Lib.hid aN;clear dQ dS dT bK dK dJ aC bI bH aN dM bJ dO dW bM eP;go_wp2_with fail;refine aA.out _ _ ⟨aM,cG⟩ ?_;clear aA;refine C5 (A:=?fB) [12,13,14,15,16] (by kernel_rfl) (by kernel_rfl) rfl (by kernel_rfl) (by kernel_rfl) ⟨aM,cG⟩ (h:=fun X hX=>?eQ) (hr:=?fC);case eQ=>
  simp only[pick,List.getElem?_cons_zero,List.getElem?_cons_succ];repeat (go_big_quiet_step (fail))
  refine wpQuiet_nil ?_;rfl
 refine F0 (by kernel_rfl) ?_;have S1:Below wc.heap.size wc wc.drew:=(Below.refl _ _).drew;have aP:=aM.below S1 aM.lt;have dX:=dU.up S1;have bN:=cF.below S1 cF.lt;have aQ:=Lib.hid (At.more S1.size (At.below aO.out S1));have dY:=bL.trans (S4 (row:=some mb) S1 (Nat.le_refl _));clear aM cG dU cF aO S1 bL;go_wp2_with fail;refine E3 (fun X=>Bk X gd 56 [.int .i64 1,.pointer ap,.int .i64 0,.map db]) (by kernel_rfl) ?_;refine C5 (A:=?fD) [0,1,2,3,4,5,6,7,8] (by kernel_rfl) (by kernel_rfl) rfl (by kernel_rfl) (by kernel_rfl) aP (h:=fun X hX=>?eR) (hr:=?fE);case eR=>
  simp only[pick,List.getElem?_cons_zero,List.getElem?_cons_succ];repeat (go_big_quiet_step (fail))
  refine wpQuiet_nil ?_;rfl
 refine C5 (A:=?fF) [10] (by kernel_rfl) (by kernel_rfl) rfl (by kernel_rfl) (by kernel_rfl) aP (h:=fun X hX=>?eS) (hr:=?fG);case eS=>
  have f1:D9 X ⟨gd,0,none⟩ 4=some [.int .i64 1,.pointer ap,.int .i64 0,.map db]:=hX.rows;simp only[pick,List.getElem?_cons_zero,List.getElem?_cons_succ];repeat (go_big_quiet_step (fail))
  refine wpQuiet_nil ?_;rfl
 refine C3 9 (by kernel_rfl) (by rfl) (by kernel_rfl) (fun Q' hQ'=>?_);dsimp only[E5];have aA:=Lib.hid hQ';clear hQ';go_wp2_with fail;refine (B4y bN aG).mono ?_;rintro x we ⟨rfl,be⟩;have bO:=aP.below be aP.lt;have dZ:=dX.up be;have cH:=bN.below be bN.lt;have aR:=At.more be.size (At.below aQ.out be);have eB:=dY.trans (S4 (row:=some mb) be (Nat.le_refl _));clear aP dX bN aQ be dY;go_wp2_with fail;refine aA.out _ _ bO ?_;clear aA;refine C3 11 (by kernel_rfl) (by rfl) (by kernel_rfl) (fun Q' hQ'=>?_);dsimp only[E5];have aA:=Lib.hid hQ';clear hQ';go_wp2_with fail;refine (A4v t _ _ _ _ we aR).mono ?_;rintro x wf ⟨rfl,bf⟩;have aS:=bO.below bf bO.lt;have cI:=dZ.up bf;have eC:=cH.below bf cH.lt;have eD:=eB.trans (S4 (row:=some mb) bf (Nat.le_refl _));clear bO dZ cH aR bf eB;go_wp2_with fail;refine aA.out _ _ aS ?_;clear aA;refine C5 (A:=?fH) [12,13,14,15,16,17] (by kernel_rfl) (by kernel_rfl) rfl (by kernel_rfl) (by kernel_rfl) aS (h:=fun X hX=>?eT) (hr:=?fI);case eT=>
  simp only[pick,List.getElem?_cons_zero,List.getElem?_cons_succ];repeat (go_big_quiet_step (fail))
  refine wpQuiet_nil ?_;rfl
 refine C3 18 (by kernel_rfl) (by rfl) (by kernel_rfl) (fun Q' hQ'=>?_);dsimp only[E5];have aA:=Lib.hid hQ';clear hQ';have aE:syE 0 (z8 32) 0 1 t.root=80:=rfl;have hp:=E1t cI eC aG none none none 0 0 0 0 0 0 0 (z8 32) 0 (I1 32) (RtC.zero wf) (by rw[aE];decide);rw[aE]at hp;go_wp2_with fail;refine hp.mono ?_;rintro x wg ⟨rfl,gg,fJ⟩;have bM:=cI.apart aS;have eE:=aS.grown gg (fun e=>by injection e with e;exact bM e);have eU:=eD.trans gg;clear hp aE aS cI eC gg eD bM;go_wp2_with fail;refine aA.out _ _ eE ?_;clear aA;refine C5 (A:=?fK) [19,20,21] (by kernel_rfl) (by kernel_rfl) rfl (by kernel_rfl) (by kernel_rfl) eE (h:=fun X hX=>?eV) (hr:=?fL);case eV=>
  simp only[pick,List.getElem?_cons_zero,List.getElem?_cons_succ];repeat (go_big_quiet_step (fail))
  refine wpQuiet_nil ?_;rfl
 refine F0 (by kernel_rfl) ?_;go_wp2_with fail;go_ret;exact ⟨rfl,cO.grown eU cO.size (fun k e=>by cases e;exact zmb)⟩
end
end Go.Proofs.YtdfpoofbgjilgaaGreat
