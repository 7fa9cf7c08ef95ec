/- A part of the proof of DirPlays. -/
import Derived.Test.YtlegpkdighoflaaGreatRbf
set_option linter.unusedVariables false
set_option linter.unusedSimpArgs false
set_option maxRecDepth 100000
set_option maxHeartbeats 40000000
namespace Go.Proofs.YtlegpkdighoflaaGreat
open Go Go.RowKit Sh
theorem D1r (k:List UInt8) (d gd:Nat) (hk:k.length=32) (hd:d<256) (w:World) (K:Bk w gd 3 [.int .i64 (d:Int)]) :
 Calls Tryz.prog 85 #[A8 k,.pointer (some ⟨gd,0,none⟩)] w fun e w'=>e=.returned (.bool (M5 k d))∧Below w.heap.size w w':=by
 have c0:(w.alloc (Obj.cells (c8 k).toArray 23)).cell? ⟨gd,0,none⟩=some (.int .i64 (d:Int)):=(K.alloc _).at_ rfl;have hr:C8 (w.alloc (Obj.cells (c8 k).toArray 23)) ⟨w.heap.size,0,none⟩ 32=some (c8 k):=by have:=(Bk.new w 23 (c8 k)).rows;rwa [E4,hk]at this
 go_enter Tryz.func85,Tryz.ntmps85;go_wp2_with fail;refine (Sn k d hk hd _).mono ?_;rintro e w1 ⟨rfl,aA⟩;go_wp2_with fail;go_ret;exact ⟨rfl,(Bh _ _).trans (aA.mono (by simp))⟩
theorem D1z (k:List UInt8) (d gd:Nat) (hk:k.length=32) (hd:d<256) (w:World) (K:Bk w gd 3 [.int .i64 (d:Int)]) :
 Calls Tryz.prog 86 #[A8 k,.pointer (some ⟨gd,0,none⟩)] w fun e w'=>e=.returned (.bool (!M5 k d))∧Below w.heap.size w w':=by
 have c0:(w.alloc (Obj.cells (c8 k).toArray 23)).cell? ⟨gd,0,none⟩=some (.int .i64 (d:Int)):=(K.alloc _).at_ rfl;have hr:C8 (w.alloc (Obj.cells (c8 k).toArray 23)) ⟨w.heap.size,0,none⟩ 32=some (c8 k):=by have:=(Bk.new w 23 (c8 k)).rows;rwa [E4,hk]at this
 go_enter Tryz.func86,Tryz.ntmps86;go_wp2_with fail;refine (Sn k d hk hd _).mono ?_;rintro e w1 ⟨rfl,aA⟩;go_wp2_with fail;go_ret;exact ⟨rfl,(Bh _ _).trans (aA.mono (by simp))⟩
theorem Hs.of_del {w:World} {g cap m:Nat} {L:List (List UInt8)} {tl:List Value} (h:RH w g L tl) (hm:m≤L.length) (hc:L.length≤cap) (hc2:cap≤9223372036854775807):Hs w 0 w.heap.size (.slice (some ⟨g,0,none⟩) m cap) (L.take m):=by
 have e:(L.take m).length=m:=by simp;omega
 refine ⟨fun k hk=>h.1 k (List.mem_of_mem_take hk),some ⟨g,0,none⟩,cap,by rw[e],by omega,by unfold maxLen;exact hc2,.inr ⟨g,0,rfl,Nat.zero_le _,h.lt,fun j u hj=>?_⟩⟩;rw[Nat.zero_add];refine h.2.at_ ?_;have hf:L.flatten=(L.take m).flatten++(L.drop m).flatten:=by rw[←List.flatten_append,List.take_append_drop]
 rw[hf];have:j<(c8 (L.take m).flatten).length:=(List.getElem?_eq_some_iff.1 hj).1;simp only[c8,List.map_append,List.append_assoc]at hj this ⊢;rw[List.getElem?_append_left this];exact hj
theorem D3r (d:Nat) (pt v:Value) (ks:List (List UInt8)) (w:World) (hat:At w w.heap.size .e pt) (hv:Hs w 0 w.heap.size v ks) :
 Calls Tryz.prog 56 #[.agg #[pt,.int .i64 (d:Int)],.int .i64 (d:Int),v] w fun e w'=>e=.returned (Tr.cut .e ks d).val∧Below w.heap.size w w':=by
 obtain⟨W0,aA⟩:=E9 ((w.alloc (Obj.cells #[pt,.int .i64 (d:Int)] 31)).alloc (Obj.cells #[.int .i64 (d:Int)] 3));have B0:Below w.heap.size w W0:=by rw[aA];exact (Bh _ _).alloc (by simp) _
 have A0:=(hat.below B0).more B0.size;go_enter Tryz.func56,Tryz.ntmps56;go_wp2_with fail;rw[←aA];refine (Ig .e pt d W0 A0).mono ?_;rintro e w1 ⟨rfl,aB⟩;go_wp2_with fail;go_ret;exact ⟨rfl,B0.trans (aB.mono B0.size)⟩
theorem A1a (t:Tr) (hp:0<t.len) (d:Nat) (pt v:Value) (w:World) (hat:At w w.heap.size t pt) (hv:Hs w 0 w.heap.size v []) :
 Calls Tryz.prog 56 #[.agg #[pt,.int .i64 (d:Int)],.int .i64 (d:Int),v] w fun e w'=>e=.returned (Tr.cut t [] d).val∧Below w.heap.size w w':=by
 have ec:Tr.cut t [] d=.hd t.root:=by cases t with | e=>simp[Tr.len]at hp | lf _ _=>rfl | nd _ _=>rfl
 rw[ec];have aD:=t.root_length;obtain⟨A,c,rfl,aE,aF⟩:=hv.form;obtain⟨W0,aB⟩:=E9 ((w.alloc (Obj.cells #[pt,.int .i64 (d:Int)] 31)).alloc (Obj.cells #[.int .i64 (d:Int)] 3));have B0:Below w.heap.size w W0:=by rw[aB];exact (Bh _ _).alloc (by simp) _
 have A0:=(hat.below B0).more B0.size;have KT:Bk W0 w.heap.size 31 [pt,.int .i64 (d:Int)]:=by rw[aB];exact (Bk.new w _ [pt,.int .i64 (d:Int)]).alloc _
 have aG:((t.len:Int)==0)=false:=beq_eq_false_iff_ne.2 (by omega);go_enter Tryz.func56,Tryz.ntmps56;go_wp2_with fail;rw[←aB];clear aB;refine (Ig t pt d W0 A0).mono ?_;rintro e w1 ⟨rfl,aA⟩;have K1:=KT.bl aA;have A1:=(A0.below aA).more aA.size;have c0:w1.cell? ⟨w.heap.size,0,none⟩=some pt:=K1.at_ rfl;have c1:w1.cell? ⟨w.heap.size,1,none⟩=some (.int .i64 (d:Int)):=K1.at_ rfl;go_wp2_with fail;refine (Yy t pt d w1 A1).mono ?_;rintro e w2 ⟨rfl,aC⟩;go_wp2_with fail;go_ret;exact ⟨rfl,(B0.trans (aA.mono B0.size)).trans (aC.mono (Nat.le_trans B0.size aA.size))⟩
theorem D2s (w:World) {k x:List UInt8} (hk:k.length=32) (hx:x.length=32) :
 C8 (C4 ((w.alloc (Obj.cells (c8 (z8 32)).toArray 23)).alloc (Obj.cells (c8 (z8 32)).toArray 23)) ⟨w.heap.size,0,none⟩ (c8 k)) ⟨w.heap.size,0,none⟩ 32=some (c8 k)∧
 C8 (C4 (C4 ((w.alloc (Obj.cells (c8 (z8 32)).toArray 23)).alloc (Obj.cells (c8 (z8 32)).toArray 23)) ⟨w.heap.size,0,none⟩ (c8 k)) ⟨w.heap.size+1,0,none⟩ (c8 x)) ⟨w.heap.size+1,0,none⟩ 32=some (c8 x):=by
 have h1:=((Bk.new w 23 (c8 (z8 32))).alloc (Obj.cells (c8 (z8 32)).toArray 23)).puts (vs:=c8 k) (by simp[hk]);have h2:Bk ((w.alloc (Obj.cells (c8 (z8 32)).toArray 23)).alloc (Obj.cells (c8 (z8 32)).toArray 23)) (w.heap.size+1) 23 (c8 (z8 32)):=by simpa using Bk.new (w.alloc (Obj.cells (c8 (z8 32)).toArray 23)) 23 (c8 (z8 32))
 have h3:=(h2.putFar (p:=⟨w.heap.size,0,none⟩) (by simp) (c8 k)).puts (vs:=c8 x) (by simp[hx]);have r1:=h1.rows;have r3:=h3.rows;rw[E4,hk]at r1;rw[E4,hx]at r3;exact ⟨r1,r3⟩
theorem C3v (k x:List UInt8) (d:Nat) (P:Nat→Bool) (ok:Ok d P (.lf k x)) (pt v:Value) (ks:List (List UInt8)) (hne:0<ks.length) (w:World) (hat:At w w.heap.size (.lf k x) pt) (hv:Hs w 0 w.heap.size v ks) :
 Calls Tryz.prog 56 #[.agg #[pt,.int .i64 (d:Int)],.int .i64 (d:Int),v] w fun e w'=>e=.returned (Tr.cut (.lf k x) ks d).val∧Below w.heap.size w w':=by
 have ec:Tr.cut (.lf k x) ks d=.lf k x:=by cases ks with | nil=>simp at hne | cons _ _=>rfl
 rw[ec];obtain⟨A,c,rfl,aD,aE⟩:=hv.form;have aF:((ks.length:Int)==0)=false:=beq_eq_false_iff_ne.2 (by omega);have hk:=ok.1;have hx:=ok.2.1;obtain⟨W0,aB⟩:=E9 ((w.alloc (Obj.cells #[pt,.int .i64 (d:Int)] 31)).alloc (Obj.cells #[.int .i64 (d:Int)] 3));have B0:Below w.heap.size w W0:=by rw[aB];exact (Bh _ _).alloc (by simp) _
 have A0:=(hat.below B0).more B0.size;have KT:Bk W0 w.heap.size 31 [pt,.int .i64 (d:Int)]:=by rw[aB];exact (Bk.new w _ [pt,.int .i64 (d:Int)]).alloc _
 go_enter Tryz.func56,Tryz.ntmps56;go_wp2_with fail;rw[←aB];clear aB;refine (Ig (.lf k x) pt d W0 A0).mono ?_;rintro e w1 ⟨rfl,aA⟩;have K1:=KT.bl aA;have A1:=(A0.below aA).more aA.size;have c0:w1.cell? ⟨w.heap.size,0,none⟩=some pt:=K1.at_ rfl;have c1:w1.cell? ⟨w.heap.size,1,none⟩=some (.int .i64 (d:Int)):=K1.at_ rfl;dsimp only[Tr.len];go_wp2_with fail;refine (A8p (.lf k x) pt d P w1 ok A1).mono ?_;dsimp only[D2o,C9c,B9n];rintro e w2 ⟨rfl,aC⟩;obtain⟨aG,aH⟩:=D2s w2 hk hx;go_wp2_with fail;go_ret;refine ⟨rfl,?_⟩;have hz:=Nat.le_trans (Nat.le_trans B0.size aA.size) aC.size;have hB:=(B0.trans (aA.mono B0.size)).trans (aC.mono (Nat.le_trans B0.size aA.size));exact C0 (C0 ((hB.alloc hz _).alloc (by simp;omega) _) hz _) (by show w.heap.size≤w2.heap.size+1;omega) _
theorem B9b (l r:Tr) (d:Nat) (P:Nat→Bool) (ok:Ok d P (.nd l r)) (hln:(Tr.nd l r).len≤1000000000000) (pt v:Value) (ks:List (List UInt8)) (hne:0<ks.length) (hsz:ks.length≤1000000000) (w:World) (hat:At w w.heap.size (.nd l r) pt) (hv:Hs w 0 w.heap.size v ks)
 (IHl:∀(pt v:Value) (ks:List (List UInt8)) (w:World),ks.length≤1000000000→At w w.heap.size l pt→Hs w 0 w.heap.size v ks→Calls Tryz.prog 56 #[.agg #[pt,.int .i64 ((d:Int)+1)],.int .i64 ((d:Int)+1),v] w fun e w'=>e=.returned (l.cut ks (d+1)).val∧Below w.heap.size w w')
 (IHr:∀(pt v:Value) (ks:List (List UInt8)) (w:World),ks.length≤1000000000→At w w.heap.size r pt→Hs w 0 w.heap.size v ks→Calls Tryz.prog 56 #[.agg #[pt,.int .i64 ((d:Int)+1)],.int .i64 ((d:Int)+1),v] w fun e w'=>e=.returned (r.cut ks (d+1)).val∧Below w.heap.size w w') :
 Calls Tryz.prog 56 #[.agg #[pt,.int .i64 (d:Int)],.int .i64 (d:Int),v] w fun e w'=>e=.returned (Tr.cut (.nd l r) ks d).val∧Below w.heap.size w w':=by
 have bG:ks.isEmpty=false:=by cases ks with | nil=>simp at hne | cons _ _=>rfl
 have ec:Tr.cut (.nd l r) ks d=.nd (l.cut (ks.filter fun x=>!M5 x d) (d+1)) (r.cut (ks.filter fun x=>M5 x d) (d+1)):=by simp only[Tr.cut,bG,if_false,Bool.false_eq_true]
 rw[ec];clear ec bG;have hd:=ok.1;have cU:=ok.2.1;have bU:=hv.form;obtain⟨A,c,rfl,cV,cW⟩:=bU;have cX:((ks.length:Int)==0)=false:=beq_eq_false_iff_ne.2 (by omega);obtain⟨W0,aK⟩:=E9 ((w.alloc (Obj.cells #[pt,.int .i64 (d:Int)] 31)).alloc (Obj.cells #[.int .i64 (d:Int)] 3));have B0:Below w.heap.size w W0:=by rw[aK];exact (Bh _ _).alloc (by simp) _
 have A0:=(hat.below B0).more B0.size;have KT:Bk W0 w.heap.size 31 [pt,.int .i64 (d:Int)]:=by rw[aK];exact (Bk.new w _ [pt,.int .i64 (d:Int)]).alloc _
 have KD:Bk W0 (w.heap.size+1) 3 [.int .i64 (d:Int)]:=by rw[aK];simpa using Bk.new (w.alloc (Obj.cells #[pt,.int .i64 (d:Int)] 31)) 3 [.int .i64 (d:Int)]
 have bH:(((Tr.nd l r).len:Int)==0)=false:=beq_eq_false_iff_ne.2 (by simp only[Tr.len];omega);go_enter Tryz.func56,Tryz.ntmps56;go_wp2_with fail;rw[←aK];clear aK;refine (Ig (.nd l r) pt d W0 A0).mono ?_;rintro e w1 ⟨rfl,aD⟩;have K1:=KT.bl aD;have D1:=KD.bl aD;have A1:=(A0.below aD).more aD.size;have H1:=(hv.below B0).below (aD.mono B0.size);have c0:w1.cell? ⟨w.heap.size,0,none⟩=some pt:=K1.at_ rfl;have c1:w1.cell? ⟨w.heap.size,1,none⟩=some (.int .i64 (d:Int)):=K1.at_ rfl;have B1:=B0.trans (aD.mono B0.size);clear hv hat A0 KT KD B0;go_wp2_with fail;refine (A8p (.nd l r) pt d P w1 ok A1).mono ?_;dsimp only[D2o,C9c,B9n];rintro e w2 ⟨rfl,aE⟩;have K2:=K1.bl aE;have D2:=D1.bl aE;have A2:=(A1.below aE).more aE.size;have H2:=H1.below (aE.mono B1.size);have B2:=B1.trans (aE.mono B1.size);clear A1 K1 D1 H1 B1 c0 c1 aD aE;obtain⟨W3,aP⟩:=E9 (C4 (C4 ((w2.alloc (Obj.cells (c8 (z8 32)).toArray 23)).alloc (Obj.cells (c8 (z8 32)).toArray 23)) ⟨w2.heap.size,0,none⟩ (c8 (z8 32))) ⟨w2.heap.size+1,0,none⟩ (c8 (z8 32)));have aF:Below w2.heap.size w2 W3:=by rw[aP];exact C0 (C0 ((Bh _ _).alloc (by simp) _) (Nat.le_refl _) _) (by simp) _
 have K3:=K2.bl aF;have D3:=D2.bl aF;have A3:=(A2.below aF).more aF.size;have H3:=H2.below (aF.mono B2.size);have B3:=B2.trans (aF.mono B2.size);have c0:W3.cell? ⟨w.heap.size,0,none⟩=some pt:=K3.at_ rfl;have c1:W3.cell? ⟨w.heap.size,1,none⟩=some (.int .i64 (d:Int)):=K3.at_ rfl;rw[aP]at c0 c1;go_wp2_with fail;rw[←aP];clear aP c0 c1 aF K2 D2 A2 H2;refine (B7v (.nd l r) pt d P W3 ok (by omega) A3).mono ?_;dsimp only[E0f,D9o,E7s,D2t];rintro e w4 ⟨pl,pr,rfl,AL,AR,aQ⟩;have D4:=D3.bl aQ;have H4:=H3.below (aQ.mono B3.size);have B4:=B3.trans (aQ.mono B3.size);obtain⟨W5,aL⟩:=E9 ((w4.alloc (Obj.cells #[.pointer pl,.int .i64 ((d:Int)+1)] 31)).alloc (Obj.cells #[.pointer pr,.int .i64 ((d:Int)+1)] 31));have aC:Below w4.heap.size w4 W5:=by rw[aL];exact (Bh _ _).alloc (by simp) _
 have L5:Bk W5 w4.heap.size 31 [.pointer pl,.int .i64 ((d:Int)+1)]:=by rw[aL];exact (Bk.new w4 _ [_,_]).alloc _
 have R5:Bk W5 (w4.heap.size+1) 31 [.pointer pr,.int .i64 ((d:Int)+1)]:=by rw[aL];simpa using Bk.new (w4.alloc (Obj.cells #[.pointer pl,.int .i64 ((d:Int)+1)] 31)) 31 [.pointer pr,.int .i64 ((d:Int)+1)]
 have D5:=D4.bl aC;have H5:=(H4.below (aC.mono B4.size)).more (Nat.le_trans B4.size aC.size);have bI:=(AL.below aC).more aC.size;have bJ:=(AR.below aC).more aC.size;have B5:=B4.trans (aC.mono B4.size);clear K3 D3 A3 H3 B3 D4 H4 AL AR aQ;go_wp2_with fail;rw[←aL];clear aL;refine (A7w _ ks W5 H5 hne (by omega)).mono ?_;rintro e w6 ⟨g6,aM,bV,rfl,bX,R6,bY,bK,aN⟩;go_wp2_with fail;have D6:=D5.bl aN;have zD:=D5.lt;refine (C2f 85 (.pointer (some ⟨w.heap.size+1,0,none⟩)) (fun k=>M5 k d) (enters_of Tryz.func85 (by kernel_rfl) rfl) W5.heap.size W5 (fun W x hx hb=>(D1r x d _ hx hd W (D5.below hb zD))) g6 aM ks bV (by omega) bY bK w6 bX aN R6).mono ?_;rintro e w7 ⟨m7,L7,rfl,aY,bL,R7,bZ,bM⟩;have aR:=Hs.of_del R7 (m:=m7) (by rw[bZ,aY];exact List.length_filter_le _ _) (by omega) bK;rw[bM]at aR;have aJ:=aN.grown bL aN.size (fun k hk=>by injection hk with hk;omega);have aZ:m7≤ks.length:=by rw[aY];exact List.length_filter_le _ _
 obtain⟨u7,bN⟩:=E9 (Value.slice (some ⟨g6,0,none⟩) m7 aM);rw[←bN]at aR ⊢;have cA:(ks.filter fun k=>!M5 k d).length≤1000000000:=by omega
 clear R6 aN bL bM R7 D6 bN aY aZ;go_wp2_with fail;refine (A7w _ ks w7 ((H5.below aJ).more aJ.size) hne (by omega)).mono ?_;rintro e w8 ⟨bO,aO,cB,rfl,cC,R8,cD,bP,aS⟩;go_wp2_with fail;have D7:=D5.below aJ zD;have cE:=D7.lt;refine (C2f 86 (.pointer (some ⟨w.heap.size+1,0,none⟩)) (fun k=>!M5 k d) (enters_of Tryz.func86 (by kernel_rfl) rfl) w7.heap.size w7 (fun W x hx hb=>(D1z x d _ hx hd W (D7.below hb cE))) bO aO ks cB (by omega) cD bP w8 cC aS R8).mono ?_;rintro e w9 ⟨m9,L9,rfl,aT,bQ,R9,cF,bR⟩;have aU:=Hs.of_del R9 (m:=m9) (by rw[cF,aT];exact List.length_filter_le _ _) (by omega) bP;rw[bR]at aU;have aV:=aS.grown bQ aS.size (fun k hk=>by injection hk with hk;omega);have bA:m9≤ks.length:=by rw[aT];exact List.length_filter_le _ _
 have aA:=aJ.trans (aV.mono aJ.size);have bB:=(aR.below aV).more aV.size;simp only[Bool.not_not]at aU aT;obtain⟨u9,bS⟩:=E9 (Value.slice (some ⟨bO,0,none⟩) m9 aO);rw[←bS]at aU ⊢;have cG:(ks.filter fun k=>M5 k d).length≤1000000000:=by omega
 clear bS aT bA;have bC:=L5.bl aA;have bD:=R5.bl aA;have bT:=D5.bl aA;have cH:=(bI.below aA).more aA.size;have cI:=(bJ.below aA).more aA.size;have B9:=B5.trans (aA.mono B5.size);clear R8 aS bQ bR R9 D7 L5 R5 D5 bI bJ H5 aR aJ aV aA aC B5;go_wp2_with fail;have S9:=Kg w9;have zl:=bC.lt;have zr:=bD.lt;have zd:=bT.lt;refine Jh (fun W=>Below w9.heap.size w9 W) ?_;refine Fs (A:=?A1) [0,1,2,3,5,6,7,8] S9 (fun W hW=>?h1) ?r1;case h1=>
  have c0:W.cell? ⟨w4.heap.size,0,none⟩=some (.pointer pl):=(bC.below hW zl).at_ rfl;have c1:W.cell? ⟨w4.heap.size,1,none⟩=some (.int .i64 ((d:Int)+1)):=(bC.below hW zl).at_ rfl;have c2:W.cell? ⟨w4.heap.size+1,0,none⟩=some (.pointer pr):=(bD.below hW zr).at_ rfl;have c3:W.cell? ⟨w4.heap.size+1,1,none⟩=some (.int .i64 ((d:Int)+1)):=(bD.below hW zr).at_ rfl;have c4:W.cell? ⟨w.heap.size+1,0,none⟩=some (.int .i64 (d:Int)):=(bT.below hW zd).at_ rfl;exact Gq
 case r1=>
  have cY:=S9;refine Ci 4 fun Q' hQ'=>?_;dsimp only[C7];go_wp2_with fail;refine (IHl (.pointer pl) u7 _ w9.drew cA (cH.below S9) (bB.below S9)).mono ?_;rintro e cJ ⟨rfl,bE⟩;have aG:=S9.trans bE;go_wp2_with fail;refine hQ' _ _ aG ?_;clear hQ';refine Ci 9 fun Q' hQ'=>?_;dsimp only[C7];go_wp2_with fail;refine (IHr (.pointer pr) u9 _ cJ cG ((cI.below aG).more aG.size) ((aU.below aG).more aG.size)).mono ?_;rintro e cZ ⟨rfl,bF⟩;have aB:=aG.trans (bF.mono aG.size);go_wp2_with fail;refine hQ' _ _ aB ?_;clear hQ';obtain⟨cK,aH⟩:=E9 (l.cut (ks.filter fun x=>!M5 x d) (d+1));obtain⟨cL,aI⟩:=E9 (r.cut (ks.filter fun x=>M5 x d) (d+1));rw[←aH,←aI];have aW:=Lib.hid aH;have aX:=Lib.hid aI;clear aH aI;rcases cK.form with hfl | ⟨tl',xl',hfl⟩<;>rcases cL.form with hfr | ⟨tr',xr',hfr⟩<;>rw[hfl,hfr]
  ·refine Fs (A:=?dC) [10,11] aB (fun W hW=>?cM) ?cN;case cM=>
    simp only[List.append_eq,Vb,pick,Wt];repeat (go_big_quiet_step (fail))
    refine wpQuiet_nil ?_;rfl
   case cN=>refine Ci 12 fun Q' hQ'=>?_;dsimp only[C7];go_wp2_with fail;refine hQ' _ _ aB ?_;clear hQ';refine It ?_;go_wp2_with fail;go_ret;exact ⟨by rw[←aW.out,←aX.out];simp only[Pt.val,hfl,hfr];rfl,B9.trans (aB.mono B9.size)⟩
  ·refine Fs (A:=?dD) [10,11] aB (fun W hW=>?cO) ?cP;case cO=>
    simp only[List.append_eq,Vb,pick,Wt];repeat (go_big_quiet_step (fail))
    refine wpQuiet_nil ?_;rfl
   case cP=>refine Ci 12 fun Q' hQ'=>?_;dsimp only[C7];go_wp2_with fail;refine hQ' _ _ aB ?_;clear hQ';refine It ?_;go_wp2_with fail;go_ret;exact ⟨by rw[←aW.out,←aX.out];simp only[Pt.val,hfl,hfr];rfl,B9.trans (aB.mono B9.size)⟩
  ·refine Fs (A:=?dF) [10,11] aB (fun W hW=>?cQ) ?cR;case cQ=>
    simp only[List.append_eq,Vb,pick,Wt];repeat (go_big_quiet_step (fail))
    refine wpQuiet_nil ?_;rfl
   case cR=>refine Ci 12 fun Q' hQ'=>?_;dsimp only[C7];go_wp2_with fail;refine hQ' _ _ aB ?_;clear hQ';refine It ?_;go_wp2_with fail;go_ret;exact ⟨by rw[←aW.out,←aX.out];simp only[Pt.val,hfl,hfr];rfl,B9.trans (aB.mono B9.size)⟩
  ·refine Fs (A:=?dG) [10,11] aB (fun W hW=>?cS) ?cT;case cS=>
    simp only[List.append_eq,Vb,pick,Wt];repeat (go_big_quiet_step (fail))
    refine wpQuiet_nil ?_;rfl
   case cT=>refine Ci 12 fun Q' hQ'=>?_;dsimp only[C7];go_wp2_with fail;refine hQ' _ _ aB ?_;clear hQ';refine It ?_;go_wp2_with fail;go_ret;exact ⟨by rw[←aW.out,←aX.out];simp only[Pt.val,hfl,hfr];rfl,B9.trans (aB.mono B9.size)⟩
theorem D3e:∀(t:Tr) (d:Nat) (P:Nat→Bool),Ok d P t→t.len≤1000000000000→∀(pt v:Value) (ks:List (List UInt8)) (w:World),ks.length≤1000000000→At w w.heap.size t pt→Hs w 0 w.heap.size v ks→
 Calls Tryz.prog 56 #[.agg #[pt,.int .i64 (d:Int)],.int .i64 (d:Int),v] w fun e w'=>e=.returned (t.cut ks d).val∧Below w.heap.size w w':=by
 intro t;induction t with
 | e=>intro d P ok hl pt v ks w hk aA hv;exact D3r d pt v ks w aA hv
 | lf k x=>
  intro d P ok hl pt v ks w hk aA hv;cases ks with
  | nil=>exact A1a (.lf k x) (by simp[Tr.len]) d pt v w aA hv
  | cons a ks=>exact C3v k x d P ok pt v (a::ks) (by simp) w aA hv
 | nd l r ihl ihr=>
  intro d P ok hl pt v ks w hk aA hv;cases ks with
  | nil=>exact A1a (.nd l r) (by have:=ok.2.1;simp only[Tr.len];omega) d pt v w aA hv
  | cons a ks=>
   have h1:=ihl (d+1) _ ok.2.2.1 (by simp only[Tr.len]at hl;omega);have h2:=ihr (d+1) _ ok.2.2.2 (by simp only[Tr.len]at hl;omega);simp only[Int.natCast_add,Int.cast_ofNat_Int]at h1 h2;exact B9b l r d P ok hl pt v (a::ks) (by simp) hk w aA hv h1 h2
theorem C9t (t:Tr) (P:Nat→Bool) (ok:Ok 0 P t) (hl:t.len≤1000000000000) (pt v:Value) (ks:List (List UInt8)) (w:World) (hk:ks.length≤1000000000) (hat:At w w.heap.size t pt) (hv:Hs w 0 w.heap.size v ks) :
 Calls Tryz.prog 33 #[.agg #[pt,.int .i64 0],v] w fun e w'=>e=.returned (.agg #[(t.cut ks 0).val])∧Below w.heap.size w w':=by
 obtain⟨W0,aA⟩:=E9 ((w.alloc (Obj.cells #[pt,.int .i64 0] 31)).alloc (Obj.cells #[.nilIface] 91));have B0:Below w.heap.size w W0:=by rw[aA];exact (Bh _ _).alloc (by simp) _
 have R0:Bk W0 (w.heap.size+1) 91 [.nilIface]:=by rw[aA];simpa using Bk.new (w.alloc (Obj.cells #[pt,.int .i64 0] 31)) 91 [.nilIface]
 have c0:W0.cell? ⟨w.heap.size,0,none⟩=some pt:=by rw[aA];exact ((Bk.new w 31 [pt,.int .i64 0]).alloc _).at_ rfl
 have c1:W0.cell? ⟨w.heap.size,1,none⟩=some (.int .i64 0):=by rw[aA];exact ((Bk.new w 31 [pt,.int .i64 0]).alloc _).at_ rfl
 rw[aA]at c0 c1;have hc:=D3e t 0 P ok hl pt v ks W0 hk ((hat.below B0).more B0.size) ((hv.below B0).more B0.size);obtain⟨q,hq⟩:=E9 (t.cut ks 0);rw[←hq]at hc ⊢;clear hq;go_enter Tryz.func33,Tryz.ntmps33;go_wp2_with fail;rw[←aA];refine hc.mono ?_;rintro e w1 ⟨rfl,h1⟩;have R1:=R0.bl h1;have c2:w1.cell? ⟨w.heap.size+1,0,none⟩=some .nilIface:=R1.at_ rfl;have f2:=R1.frozen 0;have B1:=Q5 B0 h1;clear aA;rcases q.form with hfl | ⟨tl',xl',hfl⟩<;>rw[hfl]
 ·go_wp2_with fail;exact bodyPost_ret (C5 rfl _ _ _ _ _ _ rfl (R1.set_ 0 .nilIface) Tryz.underlying91 rfl (by kernel_rfl)) rfl ⟨by rw[hfl];rfl,B1.setCell (by simp) _⟩
 ·go_wp2_with fail;exact bodyPost_ret (C5 rfl _ _ _ _ _ _ rfl (R1.set_ 0 (.iface tl' xl')) Tryz.underlying91 rfl (by kernel_rfl)) rfl ⟨by rw[hfl];rfl,B1.setCell (by simp) _⟩
section
theorem Hs.one' {w:World} {g:Nat} {t:TypeId} {k:List UInt8} (hk:k.length=32) (K:Bk w g t (c8 k)):Hs w 0 w.heap.size (.slice (some ⟨g,0,none⟩) 1 1) [k]:=by
 refine ⟨by simpa using hk,some ⟨g,0,none⟩,1,rfl,by simp,by decide,.inr ⟨g,0,rfl,Nat.zero_le _,K.lt,fun j x hj=>?_⟩⟩;rw[Nat.zero_add];exact K.at_ (by simpa using hj)
theorem B1u {w:World} {base b:Nat} {T:TypeId} {k n:Nat} {v:Value} {cs:List Value} (h:w.ownsRow base T k v n cs) (hb:b<base) (vs:List Value):(C4 w ⟨b,0,none⟩ vs).ownsRow base T k v n cs:=by
 refine World.ownsRow.kept h (Bj w b 0 vs) ?_;rcases h.2 with h2 | ⟨g,cap,cur,hv,hg,r⟩
 ·left
  simp[h2,Value.ownBlock]
 ·right
  rw[hv];simp[Value.ownBlock];omega
theorem Yf:(Tryz.prog.info? 34).map (·.size)=some 4:=by kernel_rfl
theorem A8k:(Tryz.prog.info? 31).map (·.size)=some 2:=by kernel_rfl
theorem Wa:Tryz.prog.underlying 34=some (.struct (S4 Tryz.prog 34)):=by kernel_rfl
theorem B4w:Tryz.prog.underlying 31=some (.struct (S4 Tryz.prog 31)):=by kernel_rfl
section
variable (w : World) (ρ : Operand → Value) (dst : Option Tmp) (ty : TypeId) (pos : String) (after : Array Edge) (guard : Option (Nat × Bool))
theorem Ju:RL' 34 4:=LL' Wa Yf
theorem Yw:RL' 31 2:=LL' B4w A8k
end
section
theorem A4c:Tryz.prog.underlying 47=some (.struct (S4 Tryz.prog 47)):=by kernel_rfl
theorem A2f:(Tryz.prog.info? 47).map (·.size)=some 2:=by kernel_rfl
theorem A8i:RS' 47 2:=SS' A2f
attribute [local go_sem ↓ high] Ju Yw A8i
theorem B2p (e:Int) (ap:Option Addr) (mv:Value) (hmv:mv=.map none∨∃b,mv=.map (some b)) (m:List UInt8→Option Value) (K:List UInt8→List (List UInt8)) (id:List UInt8) (hid:id.length=32) (hkn:(K id).length≤1099511627) (t:Tr) (P:Nat→Bool) (ok:Ok 0 P t) (hl:t.len≤1000000000000) (hwf:(t.cut [id] 0).Wf) (hsz:(t.cut [id] 0).bytes.length≤1099511627776) (w:World) (hm:MV w mv m) (hK:A6y w m K) (hat:At w w.heap.size t (.pointer ap)) :
 Calls Tryz.prog 11 #[.agg #[.int .i64 e,.pointer ap,.int .i64 0,mv],A8 id] w fun x w'=>∃u v,x=.returned (.agg #[u,v])∧Ee w' w.heap.size u (K id)∧M9 w' w.heap.size v (t.cut [id] 0).bytes∧Below w.heap.size w w':=by
 obtain⟨w0,aA⟩:=E9 (((w.alloc (Obj.cells #[.int .i64 e,.pointer ap,.int .i64 0,mv] 34)).alloc (Obj.cells (c8 id).toArray 23)).alloc (Obj.cells #[.slice none 0 0,.slice none 0 0] 47));go_enter Tryz.func11,Tryz.ntmps11;go_wp2_with fail;rw[←aA];have B0:Below w.heap.size w w0:=by rw[aA];exact ((Bh _ _).alloc (by simp) _).alloc (by simp;omega) _
 obtain⟨dc,aB⟩:∃z:List Value,z=[.int .i64 e,.pointer ap,.int .i64 0,mv]:=⟨_,rfl⟩;have kd:Bk w0 w.heap.size 34 dc:=by rw[aA,aB];simpa using ((Bk.new w 34 [.int .i64 e,.pointer ap,.int .i64 0,mv]).alloc (.cells (c8 id).toArray 23)).alloc (Obj.cells #[.slice none 0 0,.slice none 0 0] 47)
 have ki:Bk w0 (w.heap.size+1) 23 (c8 id):=by rw[aA];simpa using (Bk.new (w.alloc (Obj.cells #[.int .i64 e,.pointer ap,.int .i64 0,mv] 34)) 23 (c8 id)).alloc (Obj.cells #[.slice none 0 0,.slice none 0 0] 47)
 have ka:Bk w0 (w.heap.size+1+1) 47 [.slice none 0 0,.slice none 0 0]:=by rw[aA];simpa using Bk.new ((w.alloc (Obj.cells #[.int .i64 e,.pointer ap,.int .i64 0,mv] 34)).alloc (Obj.cells (c8 id).toArray 23)) 47 [.slice none 0 0,.slice none 0 0]
 have z0:w.heap.size+3≤w0.heap.size:=by rw[aA];simp
 have aC:=(hat.below B0).more B0.size;have HM:=Lib.hid (hm.up B0);have aQ:=Lib.hid (hK.up B0);clear aA hm hK hat;refine Jh (fun W=>Bk W w.heap.size 34 dc∧Bk W (w.heap.size+1) 23 (c8 id)) ?_;refine Fs (A:=?bG) [0,1,3,4,5] ⟨kd.drew,ki.drew⟩ (fun W hW=>?aR) ?bH;case aR=>
  have f1:C8 W ⟨w.heap.size,0,none⟩ 4=some [.int .i64 e,.pointer ap,.int .i64 0,mv]:=by have:=hW.1.row (o:=0) (n:=4) (by rw[aB];simp);rw[this,aB];rfl
  have f2:=Bk.row8 (n:=32) hW.2 hid;have f3:C8 W ⟨w.heap.size,1,none⟩ 2=some [.pointer ap,.int .i64 0]:=by have:=hW.1.row (o:=1) (n:=2) (by rw[aB];simp);rw[this,aB];rfl
  exact Gq
 have S0:=Kg w0;refine N8 [zk 2 7 w0.drew.heap.size (K id),zl 6 11 23 (c8 id)] (by kernel_rfl) (fun W hW=>⟨kd.drew.bl hW,ki.drew.bl hW⟩) ?aS ?aT ?aU;case aS=>exact Z3 ⟨zk_mono _ _ _ _,Z3 ⟨zl_mono _ _ _ _,fun _ h=>by cases h⟩⟩
 case aT=>
  refine Z3 ⟨?s1,Z3 ⟨?s4,fun _ h=>by cases h⟩⟩;case s1=>
   intro o ho us W hW hp Q' hQ';obtain rfl:=Option.some.inj ho;clear hp ho;rw[C1]at hQ' ⊢;dsimp only[C7,E5,List.foldl,zk,zl]at hQ' ⊢;simp only[Cy];have aV:=Lib.hid (HM.out.up (C2 S0 hW (Nat.le_refl _)));have aW:=Lib.hid (aQ.out.up (C2 S0 hW (Nat.le_refl _)));go_wp2_with fail;refine (A8l e ap 0 mv hmv m K id hid hkn W aV.out aW.out).mono ?_;rintro e W2 ⟨r,rfl,O2,b2⟩;have O2:=Lib.hid (O2.less hW.size);go_wp2_with fail;exact Ea (hQ' _ _ b2 O2.out nofun)
  case s4=>intro o ho us W hW hp Q' hQ';obtain rfl:=Option.some.inj ho;clear hp ho;rw[C1]at hQ' ⊢;dsimp only[C7,E5,List.foldl,zk,zl]at hQ' ⊢;simp only[Cy];go_wp2_with fail;exact Ea (hQ' _ _ (Bh _ _) ⟨_,rfl,Bk.new W _ (c8 id)⟩ nofun)
 case aU=>
  intro us W1 b1 hg aG aX;have O1:Ee W1 w0.drew.heap.size (us 2) (K id):=hg _ (Ca 0 rfl);obtain⟨p,aF,K4⟩:=hg _ (Ca 1 rfl);have aF:us 6=.slice (some ⟨p,0,none⟩) 1 1:=aF;have K4:Bk W1 p 23 (c8 id):=K4;rw[C1];dsimp only[E5,List.foldl,zk,zl];simp only[Cy];obtain⟨u2,aK⟩:=E9 (us 2);rw[←aK]at O1 ⊢;rw[aF];clear hg aG aX aF aK;have aY:=kd.drew.bl b1;have aZ:=ki.drew.bl b1;have bA:=ka.drew.bl b1;have B1:=C2 B0 (C2 S0 b1 S0.size) B0.size;have aD:=(aC.below (C2 S0 b1 S0.size)).more (Nat.le_trans S0.size b1.size);obtain⟨A1,c1,bB,_,_⟩:=O1.form;have HO:=Lib.hid O1;have HV:=Lib.hid (Hs.one' hid K4);have HT:=Lib.hid aD;clear O1 K4 aD aC;refine Ci 7 fun Q' hQ'=>?_;dsimp only[C7];have aE:=Lib.hid hQ';clear hQ';go_wp2_with fail;refine (C9t t P ok hl (.pointer ap) _ [id] W1 (by simp) HT.out HV.out).mono ?_;rintro e W2 ⟨rfl,b2⟩;have aL:=aY.bl b2;have aM:=aZ.bl b2;have bC:=bA.bl b2;have bD:=Lib.hid (HO.out.below b2 (Nat.le_refl _));go_wp2_with fail;refine aE.out _ _ ⟨aL,aM⟩ ?_;clear aE;refine Ci 8 fun Q' hQ'=>?_;dsimp only[C7];have aE:=Lib.hid hQ';clear hQ';go_wp2_with fail;refine (B6u _ hwf hsz W2).mono ?_;rintro e W3 ⟨v3,rfl,aN,b3⟩;have aH:=aL.bl b3;have aI:=aM.bl b3;have aJ:=bC.bl b3;have aO:=Lib.hid (bD.out.below b3 (Nat.le_refl _));have aP:=Lib.hid aN;go_wp2_with fail;refine aE.out _ _ ⟨aH,aI⟩ ?_;clear aE aN
  obtain⟨A3,c3,bE⟩:∃A c,v3=.slice A (t.cut [id] 0).bytes.length c:=by obtain⟨A,c,e,_⟩:=aP.out.form;exact ⟨A,c,e⟩
  have bF:=Mh 2 aJ (by simp);have B3:=C2 B1 (C2 b2 b3 b2.size) B1.size;have bI:C8 W3 ⟨w.heap.size+1+1,0,none⟩ 2=some [.slice none 0 0,.slice none 0 0]:=aJ.row (o:=0) (n:=2) (by simp);subst bB;subst bE;refine Ci 9 fun Q' hQ'=>?_;dsimp only[C7];go_wp2_with fail;refine hQ' _ _ ⟨aH,aI⟩ ?_;clear hQ';refine Ci 10 fun Q' hQ'=>?_;dsimp only[C7];go_wp2_with fail;refine hQ' _ _ ⟨aH.putFar (by simp;omega) _,aI.putFar (by simp) _⟩ ?_;clear hQ';refine It ?_;go_wp2_with fail;have zz:w.heap.size+1+1<w0.drew.heap.size:=Nat.lt_of_lt_of_le (by omega) S0.size;have zw:w.heap.size≤w0.drew.heap.size:=by omega
  have z2:=Nat.le_trans b1.size b2.size;exact bodyPost_ret (C5 rfl _ _ _ _ _ _ rfl (aJ.puts (vs:=[.slice A1 (K id).length c1,.slice A3 (t.cut [id] 0).bytes.length c3]) (by simp)) A4c rfl (by simp[A2f])) rfl
   ⟨_,_,rfl,Ee.less (base:=w0.drew.heap.size) ⟨aO.out.1,B1u aO.out.2 zz _⟩ zw,M9.less (base:=w0.drew.heap.size) (B1u (M9.less aP.out z2) zz _) zw,C0 B3 (by simp;omega) _⟩
end
end
theorem E2h:∀ {t:Tr} {d:Nat} {P:Nat→Bool},Ok d P t→∀(ks:List (List UInt8)) (n:Nat),(t.cut ks n).Wf:=by
 intro t;induction t with
 | e=>intro d P h ks n;unfold Tr.cut Pt.Wf;trivial
 | lf k v=>
  intro d P h ks n;unfold Tr.cut;split
  ·unfold Pt.Wf;exact Tr.root_length _
  ·unfold Pt.Wf;exact ⟨h.1,h.2.1⟩
 | nd l r ihl ihr=>
  intro d P h ks n;unfold Tr.cut;split
  ·unfold Pt.Wf;exact Tr.root_length _
  ·unfold Pt.Wf;exact ⟨ihl h.2.2.1 _ _,ihr h.2.2.2 _ _⟩
theorem C7h:∀ {t:Tr} {d:Nat} {P:Nat→Bool},Ok d P t→d≤256→∀(ks:List (List UInt8)) (n:Nat),(t.cut ks n).bytes.length≤1+t.len*(65+2*(257-d)):=by
 intro t;induction t with
 | e=>intro d P h hd ks n;unfold Tr.cut Pt.bytes;simp
 | lf k v=>
  intro d P h hd ks n;have hr:=Tr.root_length (Tr.lf k v);unfold Tr.cut;split
  ·unfold Pt.bytes;simp[hr,Tr.len];omega
  ·unfold Pt.bytes;simp[h.1,h.2.1,Tr.len];omega
 | nd l r ihl ihr=>
  intro d P h hd ks n;have hr:=Tr.root_length (Tr.nd l r);have h0:=h.1;have h2:=h.2.1;unfold Tr.cut;have el:(Tr.nd l r).len=l.len+r.len:=rfl;rw[el];obtain⟨c,hc⟩:=E9 (65+2*(257-(d+1)));have aA:65+2*(257-d)=c+2:=by omega
  rw[aA];have hm:(l.len+r.len)*(c+2)=l.len*c+r.len*c+2*(l.len+r.len):=by rw[Nat.mul_add,Nat.add_mul];omega
  rw[hm];have aB:65*l.len+65*r.len≤l.len*c+r.len*c:=by
   have a:=Nat.mul_le_mul_left l.len (show 65≤c by omega);have b:=Nat.mul_le_mul_left r.len (show 65≤c by omega);omega
  split
  ·unfold Pt.bytes;simp[hr];omega
  ·have a:=ihl h.2.2.1 (by omega) (ks.filter fun x=>!M5 x n) (n+1);have b:=ihr h.2.2.2 (by omega) (ks.filter fun x=>M5 x n) (n+1);rw[←hc]at a b;unfold Pt.bytes;simp only[List.length_append,List.length_singleton];omega
end Go.Proofs.YtlegpkdighoflaaGreat
