/- A part of the proof of ClientForks. -/
import Derived.Test.YtdfpoofbgjilgaaGreatVaz
set_option linter.unusedVariables false
set_option linter.unusedSimpArgs false
set_option maxRecDepth 100000
set_option maxHeartbeats 40000000
namespace Go.Proofs.YtdfpoofbgjilgaaGreat
open Go Go.RowKit Sh
theorem C8k (k:List UInt8) (d gd:Nat) (hk:k.length=32) (hd:d<256) (w:World) (K:Bk w gd 3 [.int .i64 (d:Int)]) :
 Calls Tryz.prog 150 #[A8 k,.pointer (some ⟨gd,0,none⟩)] w fun e w'=>e=.returned (.bool (I6 k d))∧Below w.heap.size w w':=by
 have c0:(w.alloc (Obj.cells (c8 k).toArray 35)).cell? ⟨gd,0,none⟩=some (.int .i64 (d:Int)):=(K.alloc _).at_ rfl;have hr:D9 (w.alloc (Obj.cells (c8 k).toArray 35)) ⟨w.heap.size,0,none⟩ 32=some (c8 k):=by have:=(Bk.new w 35 (c8 k)).rows;rwa [C6,hk]at this
 go_enter Tryz.func150,Tryz.ntmps150;go_wp2_with fail;refine (Mi k d hk hd _).mono ?_;rintro e w1 ⟨rfl,aA⟩;go_wp2_with fail;go_ret;exact ⟨rfl,((Below.refl _ _).alloc (Nat.le_refl _) _).trans (aA.mono (by simp))⟩
theorem D0y (k:List UInt8) (d gd:Nat) (hk:k.length=32) (hd:d<256) (w:World) (K:Bk w gd 3 [.int .i64 (d:Int)]) :
 Calls Tryz.prog 152 #[A8 k,.pointer (some ⟨gd,0,none⟩)] w fun e w'=>e=.returned (.bool (!I6 k d))∧Below w.heap.size w w':=by
 have c0:(w.alloc (Obj.cells (c8 k).toArray 35)).cell? ⟨gd,0,none⟩=some (.int .i64 (d:Int)):=(K.alloc _).at_ rfl;have hr:D9 (w.alloc (Obj.cells (c8 k).toArray 35)) ⟨w.heap.size,0,none⟩ 32=some (c8 k):=by have:=(Bk.new w 35 (c8 k)).rows;rwa [C6,hk]at this
 go_enter Tryz.func152,Tryz.ntmps152;go_wp2_with fail;refine (Mi k d hk hd _).mono ?_;rintro e w1 ⟨rfl,aA⟩;go_wp2_with fail;go_ret;exact ⟨rfl,((Below.refl _ _).alloc (Nat.le_refl _) _).trans (aA.mono (by simp))⟩
theorem Hs.of_del {w:World} {g cap m:Nat} {L:List (List UInt8)} {tl:List Value} (h:RH w g L tl) (hm:m≤L.length) (hc:L.length≤cap) (hc2:cap≤9223372036854775807):Hs w 0 w.heap.size (.slice (some ⟨g,0,none⟩) m cap) (L.take m):=by
 have e:(L.take m).length=m:=by simp;omega
 refine ⟨fun k hk=>h.1 k (List.mem_of_mem_take hk),some ⟨g,0,none⟩,cap,by rw[e],by omega,by unfold maxLen;exact hc2,.inr ⟨g,0,rfl,Nat.zero_le _,h.lt,fun j u hj=>?_⟩⟩;rw[Nat.zero_add];refine h.2.at_ ?_;have hf:L.flatten=(L.take m).flatten++(L.drop m).flatten:=by rw[←List.flatten_append,List.take_append_drop]
 rw[hf];have:j<(c8 (L.take m).flatten).length:=(List.getElem?_eq_some_iff.1 hj).1;simp only[c8,List.map_append,List.append_assoc]at hj this ⊢;rw[List.getElem?_append_left this];exact hj
theorem C5e (d:Nat) (pt v:Value) (ks:List (List UInt8)) (w:World) (hat:At w w.heap.size .e pt) (hv:Hs w 0 w.heap.size v ks) :
 Calls Tryz.prog 92 #[.agg #[pt,.int .i64 (d:Int)],.int .i64 (d:Int),v] w fun e w'=>e=.returned (Tr.cut .e ks d).val∧Below w.heap.size w w':=by
 obtain⟨W0,aA⟩:∃x,x=(w.alloc (Obj.cells #[pt,.int .i64 (d:Int)] 53)).alloc (Obj.cells #[.int .i64 (d:Int)] 3):=⟨_,rfl⟩;have B0:Below w.heap.size w W0:=by rw[aA];exact ((Below.refl _ _).alloc (Nat.le_refl _) _).alloc (by simp) _
 have A0:At W0 W0.heap.size .e pt:=(hat.below B0).more B0.size;go_enter Tryz.func92,Tryz.ntmps92;go_wp2_with fail;rw[←aA];refine (Fi .e pt d W0 A0).mono ?_;rintro e w1 ⟨rfl,aB⟩;go_wp2_with fail;go_ret;exact ⟨rfl,B0.trans (aB.mono B0.size)⟩
theorem Wp (t:Tr) (hp:0<t.len) (d:Nat) (pt v:Value) (w:World) (hat:At w w.heap.size t pt) (hv:Hs w 0 w.heap.size v []) :
 Calls Tryz.prog 92 #[.agg #[pt,.int .i64 (d:Int)],.int .i64 (d:Int),v] w fun e w'=>e=.returned (Tr.cut t [] d).val∧Below w.heap.size w w':=by
 have ec:Tr.cut t [] d=.hd t.root:=by cases t with | e=>simp[Tr.len]at hp | lf _ _=>rfl | nd _ _=>rfl
 rw[ec];have aD:=t.root_length;obtain⟨A,c,rfl,aE,aF⟩:=hv.form;obtain⟨W0,aB⟩:∃x,x=(w.alloc (Obj.cells #[pt,.int .i64 (d:Int)] 53)).alloc (Obj.cells #[.int .i64 (d:Int)] 3):=⟨_,rfl⟩;have B0:Below w.heap.size w W0:=by rw[aB];exact ((Below.refl _ _).alloc (Nat.le_refl _) _).alloc (by simp) _
 have A0:At W0 W0.heap.size t pt:=(hat.below B0).more B0.size;have KT:Bk W0 w.heap.size 53 [pt,.int .i64 (d:Int)]:=by rw[aB];exact (Bk.new w _ [pt,.int .i64 (d:Int)]).alloc _
 have aG:((t.len:Int)==0)=false:=beq_eq_false_iff_ne.2 (by omega);go_enter Tryz.func92,Tryz.ntmps92;go_wp2_with fail;rw[←aB];clear aB;refine (Fi t pt d W0 A0).mono ?_;rintro e w1 ⟨rfl,aA⟩;have K1:=KT.below aA KT.lt;have A1:=(A0.below aA).more aA.size;have c0:w1.cell? ⟨w.heap.size,0,none⟩=some pt:=K1.at_ rfl;have c1:w1.cell? ⟨w.heap.size,1,none⟩=some (.int .i64 (d:Int)):=K1.at_ rfl;go_wp2_with fail;refine (A4j t pt d w1 A1).mono ?_;rintro e w2 ⟨rfl,aC⟩;go_wp2_with fail;go_ret;exact ⟨rfl,(B0.trans (aA.mono B0.size)).trans (aC.mono (Nat.le_trans B0.size aA.size))⟩
theorem D1e (w:World) {k x:List UInt8} (hk:k.length=32) (hx:x.length=32) :
 D9 (C4 ((w.alloc (Obj.cells (c8 (z8 32)).toArray 35)).alloc (Obj.cells (c8 (z8 32)).toArray 35)) ⟨w.heap.size,0,none⟩ (c8 k)) ⟨w.heap.size,0,none⟩ 32=some (c8 k)∧
 D9 (C4 (C4 ((w.alloc (Obj.cells (c8 (z8 32)).toArray 35)).alloc (Obj.cells (c8 (z8 32)).toArray 35)) ⟨w.heap.size,0,none⟩ (c8 k)) ⟨w.heap.size+1,0,none⟩ (c8 x)) ⟨w.heap.size+1,0,none⟩ 32=some (c8 x):=by
 have h1:=((Bk.new w 35 (c8 (z8 32))).alloc (Obj.cells (c8 (z8 32)).toArray 35)).puts (vs:=c8 k) (by simp[hk]);have h2:Bk ((w.alloc (Obj.cells (c8 (z8 32)).toArray 35)).alloc (Obj.cells (c8 (z8 32)).toArray 35)) (w.heap.size+1) 35 (c8 (z8 32)):=by simpa using Bk.new (w.alloc (Obj.cells (c8 (z8 32)).toArray 35)) 35 (c8 (z8 32))
 have h3:=(h2.putFar (p:=⟨w.heap.size,0,none⟩) (by simp) (c8 k)).puts (vs:=c8 x) (by simp[hx]);have r1:=h1.rows;have r3:=h3.rows;rw[C6,hk]at r1;rw[C6,hx]at r3;exact ⟨r1,r3⟩
theorem C1f (k x:List UInt8) (d:Nat) (P:Nat→Bool) (ok:Ok d P (.lf k x)) (pt v:Value) (ks:List (List UInt8)) (hne:0<ks.length) (w:World) (hat:At w w.heap.size (.lf k x) pt) (hv:Hs w 0 w.heap.size v ks) :
 Calls Tryz.prog 92 #[.agg #[pt,.int .i64 (d:Int)],.int .i64 (d:Int),v] w fun e w'=>e=.returned (Tr.cut (.lf k x) ks d).val∧Below w.heap.size w w':=by
 have ec:Tr.cut (.lf k x) ks d=.lf k x:=by cases ks with | nil=>simp at hne | cons _ _=>rfl
 rw[ec];obtain⟨A,c,rfl,aD,aE⟩:=hv.form;have aF:((ks.length:Int)==0)=false:=beq_eq_false_iff_ne.2 (by omega);have hk:=ok.1;have hx:=ok.2.1;obtain⟨W0,aB⟩:∃y,y=(w.alloc (Obj.cells #[pt,.int .i64 (d:Int)] 53)).alloc (Obj.cells #[.int .i64 (d:Int)] 3):=⟨_,rfl⟩;have B0:Below w.heap.size w W0:=by rw[aB];exact ((Below.refl _ _).alloc (Nat.le_refl _) _).alloc (by simp) _
 have A0:At W0 W0.heap.size (.lf k x) pt:=(hat.below B0).more B0.size;have KT:Bk W0 w.heap.size 53 [pt,.int .i64 (d:Int)]:=by rw[aB];exact (Bk.new w _ [pt,.int .i64 (d:Int)]).alloc _
 go_enter Tryz.func92,Tryz.ntmps92;go_wp2_with fail;rw[←aB];clear aB;refine (Fi (.lf k x) pt d W0 A0).mono ?_;rintro e w1 ⟨rfl,aA⟩;have K1:=KT.below aA KT.lt;have A1:=(A0.below aA).more aA.size;have c0:w1.cell? ⟨w.heap.size,0,none⟩=some pt:=K1.at_ rfl;have c1:w1.cell? ⟨w.heap.size,1,none⟩=some (.int .i64 (d:Int)):=K1.at_ rfl;dsimp only[Tr.len];go_wp2_with fail;refine (A4f (.lf k x) pt d P w1 ok A1).mono ?_;dsimp only[D0z,D1z,B6s];rintro e w2 ⟨rfl,aC⟩;obtain⟨aG,aH⟩:=D1e w2 hk hx;go_wp2_with fail;go_ret;refine ⟨rfl,?_⟩;have hz:w.heap.size≤w2.heap.size:=Nat.le_trans (Nat.le_trans B0.size aA.size) aC.size;have hB:=(B0.trans (aA.mono B0.size)).trans (aC.mono (Nat.le_trans B0.size aA.size));exact C0 (C0 ((hB.alloc hz _).alloc (by simp;omega) _) hz _) (by show w.heap.size≤w2.heap.size+1;omega) _
theorem B5y (l r:Tr) (d:Nat) (P:Nat→Bool) (ok:Ok d P (.nd l r)) (hln:(Tr.nd l r).len≤1000000000000) (pt v:Value) (ks:List (List UInt8)) (hne:0<ks.length) (hsz:ks.length≤1000000000) (w:World) (hat:At w w.heap.size (.nd l r) pt) (hv:Hs w 0 w.heap.size v ks)
 (IHl:∀(pt v:Value) (ks:List (List UInt8)) (w:World),ks.length≤1000000000→At w w.heap.size l pt→Hs w 0 w.heap.size v ks→Calls Tryz.prog 92 #[.agg #[pt,.int .i64 ((d:Int)+1)],.int .i64 ((d:Int)+1),v] w fun e w'=>e=.returned (l.cut ks (d+1)).val∧Below w.heap.size w w')
 (IHr:∀(pt v:Value) (ks:List (List UInt8)) (w:World),ks.length≤1000000000→At w w.heap.size r pt→Hs w 0 w.heap.size v ks→Calls Tryz.prog 92 #[.agg #[pt,.int .i64 ((d:Int)+1)],.int .i64 ((d:Int)+1),v] w fun e w'=>e=.returned (r.cut ks (d+1)).val∧Below w.heap.size w w') :
 Calls Tryz.prog 92 #[.agg #[pt,.int .i64 (d:Int)],.int .i64 (d:Int),v] w fun e w'=>e=.returned (Tr.cut (.nd l r) ks d).val∧Below w.heap.size w w':=by
 have bG:ks.isEmpty=false:=by cases ks with | nil=>simp at hne | cons _ _=>rfl
 have ec:Tr.cut (.nd l r) ks d=.nd (l.cut (ks.filter fun x=>!I6 x d) (d+1)) (r.cut (ks.filter fun x=>I6 x d) (d+1)):=by simp only[Tr.cut,bG,if_false,Bool.false_eq_true]
 rw[ec];clear ec bG;have hd:=ok.1;have cV:=ok.2.1;have bW:=hv.form;obtain⟨A,c,rfl,cW,cX⟩:=bW;have cY:((ks.length:Int)==0)=false:=beq_eq_false_iff_ne.2 (by omega);obtain⟨W0,aL⟩:∃y,y=(w.alloc (Obj.cells #[pt,.int .i64 (d:Int)] 53)).alloc (Obj.cells #[.int .i64 (d:Int)] 3):=⟨_,rfl⟩;have B0:Below w.heap.size w W0:=by rw[aL];exact ((Below.refl _ _).alloc (Nat.le_refl _) _).alloc (by simp) _
 have A0:At W0 W0.heap.size (.nd l r) pt:=(hat.below B0).more B0.size;have KT:Bk W0 w.heap.size 53 [pt,.int .i64 (d:Int)]:=by rw[aL];exact (Bk.new w _ [pt,.int .i64 (d:Int)]).alloc _
 have KD:Bk W0 (w.heap.size+1) 3 [.int .i64 (d:Int)]:=by rw[aL];simpa using Bk.new (w.alloc (Obj.cells #[pt,.int .i64 (d:Int)] 53)) 3 [.int .i64 (d:Int)]
 have bH:(((Tr.nd l r).len:Int)==0)=false:=beq_eq_false_iff_ne.2 (by simp only[Tr.len];omega);go_enter Tryz.func92,Tryz.ntmps92;go_wp2_with fail;rw[←aL];clear aL;refine (Fi (.nd l r) pt d W0 A0).mono ?_;rintro e w1 ⟨rfl,aD⟩;have K1:=KT.below aD KT.lt;have D1:=KD.below aD KD.lt;have A1:=(A0.below aD).more aD.size;have H1:=(hv.below B0).below (aD.mono B0.size);have c0:w1.cell? ⟨w.heap.size,0,none⟩=some pt:=K1.at_ rfl;have c1:w1.cell? ⟨w.heap.size,1,none⟩=some (.int .i64 (d:Int)):=K1.at_ rfl;have z0:=KD.lt;have B1:=B0.trans (aD.mono B0.size);clear hv hat A0 KT KD B0;go_wp2_with fail;refine (A4f (.nd l r) pt d P w1 ok A1).mono ?_;dsimp only[D0z,D1z,B6s];rintro e w2 ⟨rfl,aE⟩;have z1:=aD.size;have K2:=K1.below aE K1.lt;have D2:=D1.below aE D1.lt;have A2:=(A1.below aE).more aE.size;have H2:=H1.below (aE.mono B1.size);have B2:=B1.trans (aE.mono B1.size);clear A1 K1 D1 H1 B1 c0 c1 aD aE;obtain⟨W3,aQ⟩:∃y,y=C4 (C4 ((w2.alloc (Obj.cells (c8 (z8 32)).toArray 35)).alloc (Obj.cells (c8 (z8 32)).toArray 35)) ⟨w2.heap.size,0,none⟩ (c8 (z8 32))) ⟨w2.heap.size+1,0,none⟩ (c8 (z8 32)):=⟨_,rfl⟩;have aF:Below w2.heap.size w2 W3:=by rw[aQ];exact C0 (C0 (((Below.refl _ _).alloc (Nat.le_refl _) _).alloc (by simp) _) (Nat.le_refl _) _) (by simp) _
 have K3:=K2.below aF K2.lt;have D3:=D2.below aF D2.lt;have A3:=(A2.below aF).more aF.size;have H3:=H2.below (aF.mono B2.size);have B3:=B2.trans (aF.mono B2.size);have c0:W3.cell? ⟨w.heap.size,0,none⟩=some pt:=K3.at_ rfl;have c1:W3.cell? ⟨w.heap.size,1,none⟩=some (.int .i64 (d:Int)):=K3.at_ rfl;rw[aQ]at c0 c1;go_wp2_with fail;rw[←aQ];clear aQ c0 c1 aF K2 D2 A2 H2;refine (B6i (.nd l r) pt d P W3 ok (by omega) A3).mono ?_;dsimp only[D9c,D8o,E7o,D1v];rintro e w4 ⟨pl,pr,rfl,AL,AR,aR⟩;have D4:=D3.below aR D3.lt;have H4:=H3.below (aR.mono B3.size);have B4:=B3.trans (aR.mono B3.size);obtain⟨W5,aM⟩:∃y,y=(w4.alloc (Obj.cells #[.pointer pl,.int .i64 ((d:Int)+1)] 53)).alloc (Obj.cells #[.pointer pr,.int .i64 ((d:Int)+1)] 53):=⟨_,rfl⟩;have aC:Below w4.heap.size w4 W5:=by rw[aM];exact ((Below.refl _ _).alloc (Nat.le_refl _) _).alloc (by simp) _
 have L5:Bk W5 w4.heap.size 53 [.pointer pl,.int .i64 ((d:Int)+1)]:=by rw[aM];exact (Bk.new w4 _ [_,_]).alloc _
 have R5:Bk W5 (w4.heap.size+1) 53 [.pointer pr,.int .i64 ((d:Int)+1)]:=by rw[aM];simpa using Bk.new (w4.alloc (Obj.cells #[.pointer pl,.int .i64 ((d:Int)+1)] 53)) 53 [.pointer pr,.int .i64 ((d:Int)+1)]
 have D5:=D4.below aC D4.lt;have H5:=(H4.below (aC.mono B4.size)).more (Nat.le_trans B4.size aC.size);have bI:=(AL.below aC).more aC.size;have bJ:=(AR.below aC).more aC.size;have B5:=B4.trans (aC.mono B4.size);clear K3 D3 A3 H3 B3 D4 H4 AL AR aR;go_wp2_with fail;rw[←aM];clear aM;refine (Jv _ ks W5 H5 hne (by omega)).mono ?_;rintro e w6 ⟨g6,aN,bX,rfl,bY,R6,bZ,bK,aK⟩;go_wp2_with fail;have D6:=D5.below aK D5.lt;have zD:=D5.lt;have B6:=B5.trans (aK.mono B5.size);refine (B8j 150 (.pointer (some ⟨w.heap.size+1,0,none⟩)) (fun k=>I6 k d) (enters_of Tryz.func150 (by kernel_rfl) rfl) W5.heap.size W5 (fun W x hx hb=>(C8k x d _ hx hd W (D5.below hb zD))) g6 aN ks bX (by omega) bZ bK w6 bY aK R6).mono ?_;rintro e w7 ⟨m7,L7,rfl,aY,bL,R7,cA,bM⟩;have aS:=Hs.of_del R7 (m:=m7) (by rw[cA,aY];exact List.length_filter_le _ _) (by omega) bK;rw[bM]at aS;have aG:Below W5.heap.size W5 w7:=aK.grown bL aK.size (fun k hk=>by injection hk with hk;omega);have z7:=aG.size;have aZ:m7≤ks.length:=by rw[aY];exact List.length_filter_le _ _
 obtain⟨u7,bN⟩:∃u,u=Value.slice (some ⟨g6,0,none⟩) m7 aN:=⟨_,rfl⟩;rw[←bN]at aS ⊢;have cB:(ks.filter fun k=>!I6 k d).length≤1000000000:=by omega
 clear R6 aK bL bM R7 D6 B6 bN aY aZ;go_wp2_with fail;refine (Jv _ ks w7 ((H5.below aG).more aG.size) hne (by omega)).mono ?_;rintro e w8 ⟨bO,aO,cC,rfl,cD,R8,cE,bP,aT⟩;go_wp2_with fail;have D7:=D5.below aG zD;have cF:=D7.lt;refine (B8j 152 (.pointer (some ⟨w.heap.size+1,0,none⟩)) (fun k=>!I6 k d) (enters_of Tryz.func152 (by kernel_rfl) rfl) w7.heap.size w7 (fun W x hx hb=>(D0y x d _ hx hd W (D7.below hb cF))) bO aO ks cC (by omega) cE bP w8 cD aT R8).mono ?_;rintro e w9 ⟨m9,L9,rfl,aU,bQ,R9,cG,bR⟩;have aV:=Hs.of_del R9 (m:=m9) (by rw[cG,aU];exact List.length_filter_le _ _) (by omega) bP;rw[bR]at aV;have aP:Below w7.heap.size w7 w9:=aT.grown bQ aT.size (fun k hk=>by injection hk with hk;omega);have bA:m9≤ks.length:=by rw[aU];exact List.length_filter_le _ _
 have z9:=aP.size;have aA:=aG.trans (aP.mono aG.size);have bB:=(aS.below aP).more aP.size;simp only[Bool.not_not]at aV aU;obtain⟨u9,bS⟩:∃u,u=Value.slice (some ⟨bO,0,none⟩) m9 aO:=⟨_,rfl⟩;rw[←bS]at aV ⊢;have cH:(ks.filter fun k=>I6 k d).length≤1000000000:=by omega
 clear bS aU bA;have bC:=L5.below aA L5.lt;have bD:=R5.below aA R5.lt;have bT:=D5.below aA D5.lt;have cI:=(bI.below aA).more aA.size;have cJ:=(bJ.below aA).more aA.size;have B9:=B5.trans (aA.mono B5.size);clear R8 aT bQ bR R9 D7 L5 R5 D5 bI bJ H5 aS aG aP aA aC B5;go_wp2_with fail;have S9:Below w9.heap.size w9 w9.drew:=(Below.refl _ _).drew;have zl:=bC.lt;have zr:=bD.lt;have zd:=bT.lt;refine E3 (fun W=>Below w9.heap.size w9 W) (by kernel_rfl) ?_;refine C5 (A:=?A1) [0,1,2,3,5,6,7,8] (by kernel_rfl) (by kernel_rfl) rfl (by kernel_rfl) (by kernel_rfl) S9 (h:=fun W hW=>?h1) (hr:=?r1);case h1=>
  have c0:W.cell? ⟨w4.heap.size,0,none⟩=some (.pointer pl):=(bC.below hW zl).at_ rfl;have c1:W.cell? ⟨w4.heap.size,1,none⟩=some (.int .i64 ((d:Int)+1)):=(bC.below hW zl).at_ rfl;have c2:W.cell? ⟨w4.heap.size+1,0,none⟩=some (.pointer pr):=(bD.below hW zr).at_ rfl;have c3:W.cell? ⟨w4.heap.size+1,1,none⟩=some (.int .i64 ((d:Int)+1)):=(bD.below hW zr).at_ rfl;have c4:W.cell? ⟨w.heap.size+1,0,none⟩=some (.int .i64 (d:Int)):=(bT.below hW zd).at_ rfl;simp only[pick,List.getElem?_cons_zero,List.getElem?_cons_succ];repeat (go_big_quiet_step (fail))
  refine wpQuiet_nil ?_;rfl
 case r1=>
  have cZ:=S9;refine C3 4 (by kernel_rfl) (by rfl) (by rfl) (fun Q' hQ'=>?_);dsimp only[E5];go_wp2_with fail;refine (IHl (.pointer pl) u7 _ w9.drew cB (cI.below S9) (bB.below S9)).mono ?_;rintro e bU ⟨rfl,bE⟩;have aH:Below w9.heap.size w9 bU:=S9.trans bE;go_wp2_with fail;refine hQ' _ _ aH ?_;clear hQ';refine C3 9 (by kernel_rfl) (by rfl) (by rfl) (fun Q' hQ'=>?_);dsimp only[E5];go_wp2_with fail;refine (IHr (.pointer pr) u9 _ bU cH ((cJ.below aH).more aH.size) ((aV.below aH).more aH.size)).mono ?_;rintro e cK ⟨rfl,bF⟩;have aB:Below w9.heap.size w9 cK:=aH.trans (bF.mono aH.size);go_wp2_with fail;refine hQ' _ _ aB ?_;clear hQ';obtain⟨cL,aI⟩:∃x,x=l.cut (ks.filter fun x=>!I6 x d) (d+1):=⟨_,rfl⟩;obtain⟨cM,aJ⟩:∃x,x=r.cut (ks.filter fun x=>I6 x d) (d+1):=⟨_,rfl⟩;rw[←aI,←aJ];have aW:=Lib.hid aI;have aX:=Lib.hid aJ;clear aI aJ;rcases cL.form with hfl | ⟨tl',xl',hfl⟩<;>rcases cM.form with hfr | ⟨tr',xr',hfr⟩<;>rw[hfl,hfr]
  ·refine C5 (A:=?dC) [10,11] (by kernel_rfl) (by kernel_rfl) rfl (by kernel_rfl) (by kernel_rfl) aB (h:=fun W hW=>?cN) (hr:=?cO);case cN=>
    simp only[List.append_eq,List.nil_append,List.cons_append,pick,List.getElem?_cons_zero,List.getElem?_cons_succ];repeat (go_big_quiet_step (fail))
    refine wpQuiet_nil ?_;rfl
   case cO=>refine C3 12 (by kernel_rfl) (by rfl) (by rfl) (fun Q' hQ'=>?_);dsimp only[E5];go_wp2_with fail;refine hQ' _ _ aB ?_;clear hQ';refine F0 (by kernel_rfl) ?_;go_wp2_with fail;go_ret;exact ⟨by rw[←aW.out,←aX.out];simp only[Pt.val,hfl,hfr];rfl,B9.trans (aB.mono B9.size)⟩
  ·refine C5 (A:=?dD) [10,11] (by kernel_rfl) (by kernel_rfl) rfl (by kernel_rfl) (by kernel_rfl) aB (h:=fun W hW=>?cP) (hr:=?cQ);case cP=>
    simp only[List.append_eq,List.nil_append,List.cons_append,pick,List.getElem?_cons_zero,List.getElem?_cons_succ];repeat (go_big_quiet_step (fail))
    refine wpQuiet_nil ?_;rfl
   case cQ=>refine C3 12 (by kernel_rfl) (by rfl) (by rfl) (fun Q' hQ'=>?_);dsimp only[E5];go_wp2_with fail;refine hQ' _ _ aB ?_;clear hQ';refine F0 (by kernel_rfl) ?_;go_wp2_with fail;go_ret;exact ⟨by rw[←aW.out,←aX.out];simp only[Pt.val,hfl,hfr];rfl,B9.trans (aB.mono B9.size)⟩
  ·refine C5 (A:=?dF) [10,11] (by kernel_rfl) (by kernel_rfl) rfl (by kernel_rfl) (by kernel_rfl) aB (h:=fun W hW=>?cR) (hr:=?cS);case cR=>
    simp only[List.append_eq,List.nil_append,List.cons_append,pick,List.getElem?_cons_zero,List.getElem?_cons_succ];repeat (go_big_quiet_step (fail))
    refine wpQuiet_nil ?_;rfl
   case cS=>refine C3 12 (by kernel_rfl) (by rfl) (by rfl) (fun Q' hQ'=>?_);dsimp only[E5];go_wp2_with fail;refine hQ' _ _ aB ?_;clear hQ';refine F0 (by kernel_rfl) ?_;go_wp2_with fail;go_ret;exact ⟨by rw[←aW.out,←aX.out];simp only[Pt.val,hfl,hfr];rfl,B9.trans (aB.mono B9.size)⟩
  ·refine C5 (A:=?dG) [10,11] (by kernel_rfl) (by kernel_rfl) rfl (by kernel_rfl) (by kernel_rfl) aB (h:=fun W hW=>?cT) (hr:=?cU);case cT=>
    simp only[List.append_eq,List.nil_append,List.cons_append,pick,List.getElem?_cons_zero,List.getElem?_cons_succ];repeat (go_big_quiet_step (fail))
    refine wpQuiet_nil ?_;rfl
   case cU=>refine C3 12 (by kernel_rfl) (by rfl) (by rfl) (fun Q' hQ'=>?_);dsimp only[E5];go_wp2_with fail;refine hQ' _ _ aB ?_;clear hQ';refine F0 (by kernel_rfl) ?_;go_wp2_with fail;go_ret;exact ⟨by rw[←aW.out,←aX.out];simp only[Pt.val,hfl,hfr];rfl,B9.trans (aB.mono B9.size)⟩
theorem D0o:∀(t:Tr) (d:Nat) (P:Nat→Bool),Ok d P t→t.len≤1000000000000→∀(pt v:Value) (ks:List (List UInt8)) (w:World),ks.length≤1000000000→At w w.heap.size t pt→Hs w 0 w.heap.size v ks→
 Calls Tryz.prog 92 #[.agg #[pt,.int .i64 (d:Int)],.int .i64 (d:Int),v] w fun e w'=>e=.returned (t.cut ks d).val∧Below w.heap.size w w':=by
 intro t;induction t with
 | e=>intro d P ok hl pt v ks w hk aA hv;exact C5e d pt v ks w aA hv
 | lf k x=>
  intro d P ok hl pt v ks w hk aA hv;cases ks with
  | nil=>exact Wp (.lf k x) (by simp[Tr.len]) d pt v w aA hv
  | cons a ks=>exact C1f k x d P ok pt v (a::ks) (by simp) w aA hv
 | nd l r ihl ihr=>
  intro d P ok hl pt v ks w hk aA hv;cases ks with
  | nil=>exact Wp (.nd l r) (by have:=ok.2.1;simp only[Tr.len];omega) d pt v w aA hv
  | cons a ks=>
   have h1:=ihl (d+1) _ ok.2.2.1 (by simp only[Tr.len]at hl;omega);have h2:=ihr (d+1) _ ok.2.2.2 (by simp only[Tr.len]at hl;omega);simp only[Int.natCast_add,Int.cast_ofNat_Int]at h1 h2;exact B5y l r d P ok hl pt v (a::ks) (by simp) hk w aA hv h1 h2
theorem D2g (t:Tr) (P:Nat→Bool) (ok:Ok 0 P t) (hl:t.len≤1000000000000) (pt v:Value) (ks:List (List UInt8)) (w:World) (hk:ks.length≤1000000000) (hat:At w w.heap.size t pt) (hv:Hs w 0 w.heap.size v ks) :
 Calls Tryz.prog 47 #[.agg #[pt,.int .i64 0],v] w fun e w'=>e=.returned (.agg #[(t.cut ks 0).val])∧Below w.heap.size w w':=by
 obtain⟨W0,aA⟩:∃x,x=(w.alloc (Obj.cells #[pt,.int .i64 0] 53)).alloc (Obj.cells #[.nilIface] 122):=⟨_,rfl⟩;have B0:Below w.heap.size w W0:=by rw[aA];exact ((Below.refl _ _).alloc (Nat.le_refl _) _).alloc (by simp) _
 have R0:Bk W0 (w.heap.size+1) 122 [.nilIface]:=by rw[aA];simpa using Bk.new (w.alloc (Obj.cells #[pt,.int .i64 0] 53)) 122 [.nilIface]
 have c0:W0.cell? ⟨w.heap.size,0,none⟩=some pt:=by rw[aA];exact ((Bk.new w 53 [pt,.int .i64 0]).alloc _).at_ rfl
 have c1:W0.cell? ⟨w.heap.size,1,none⟩=some (.int .i64 0):=by rw[aA];exact ((Bk.new w 53 [pt,.int .i64 0]).alloc _).at_ rfl
 rw[aA]at c0 c1;have hc:=D0o t 0 P ok hl pt v ks W0 hk ((hat.below B0).more B0.size) ((hv.below B0).more B0.size);obtain⟨q,hq⟩:∃q,q=t.cut ks 0:=⟨_,rfl⟩;rw[←hq]at hc ⊢;clear hq;go_enter Tryz.func47,Tryz.ntmps47;go_wp2_with fail;rw[←aA];refine hc.mono ?_;rintro e w1 ⟨rfl,h1⟩;have R1:=R0.below h1 R0.lt;have c2:w1.cell? ⟨w.heap.size+1,0,none⟩=some .nilIface:=R1.at_ rfl;have f2:=R1.frozen 0;have B1:=C1 B0 h1 B0.size;clear aA;rcases q.form with hfl | ⟨tl',xl',hfl⟩<;>rw[hfl]
 ·go_wp2_with fail;exact bodyPost_ret (C7 rfl _ _ _ _ _ _ rfl (R1.set_ 0 .nilIface) Tryz.underlying122 rfl (by kernel_rfl)) rfl ⟨by rw[hfl];rfl,B1.setCell (by simp) _⟩
 ·go_wp2_with fail;exact bodyPost_ret (C7 rfl _ _ _ _ _ _ rfl (R1.set_ 0 (.iface tl' xl')) Tryz.underlying122 rfl (by kernel_rfl)) rfl ⟨by rw[hfl];rfl,B1.setCell (by simp) _⟩
section
theorem Hs.one' {w:World} {g:Nat} {t:TypeId} {k:List UInt8} (hk:k.length=32) (K:Bk w g t (c8 k)):Hs w 0 w.heap.size (.slice (some ⟨g,0,none⟩) 1 1) [k]:=by
 refine ⟨by simpa using hk,some ⟨g,0,none⟩,1,rfl,by simp,by decide,.inr ⟨g,0,rfl,Nat.zero_le _,K.lt,fun j x hj=>?_⟩⟩;rw[Nat.zero_add];exact K.at_ (by simpa using hj)
theorem B1f {w:World} {base b:Nat} {T:TypeId} {k n:Nat} {v:Value} {cs:List Value} (h:w.ownsRow base T k v n cs) (hb:b<base) (vs:List Value):(C4 w ⟨b,0,none⟩ vs).ownsRow base T k v n cs:=by
 refine World.ownsRow.kept h (X4 w b 0 vs) ?_;rcases h.2 with h2 | ⟨g,cap,cur,hv,hg,r⟩
 ·left
  simp[h2,Value.ownBlock]
 ·right
  rw[hv];simp[Value.ownBlock];omega
theorem Te:(Tryz.prog.info? 56).map (·.size)=some 4:=by kernel_rfl
theorem A5x:(Tryz.prog.info? 53).map (·.size)=some 2:=by kernel_rfl
theorem Rx:Tryz.prog.underlying 56=some (.struct (I2 Tryz.prog 56)):=by kernel_rfl
theorem B3l:Tryz.prog.underlying 53=some (.struct (I2 Tryz.prog 53)):=by kernel_rfl
section
variable (w : World) (ρ : Operand → Value) (dst : Option Tmp) (ty : TypeId) (pos : String) (after : Array Edge) (guard : Option (Nat × Bool))
theorem Hl:RL' 56 4:=LL' Rx Te
theorem Ut:RL' 53 2:=LL' B3l A5x
end
section
theorem B5j:Tryz.prog.underlying 86=some (.struct (I2 Tryz.prog 86)):=by kernel_rfl
theorem A8w:(Tryz.prog.info? 86).map (·.size)=some 2:=by kernel_rfl
theorem C3v:RS' 86 2:=SS' A8w
attribute [local go_sem ↓ high] Hl Ut C3v
theorem A9p (e:Int) (ap:Option Addr) (mv:Value) (hmv:mv=.map none∨∃b,mv=.map (some b)) (m:List UInt8→Option Value) (K:List UInt8→List (List UInt8)) (id:List UInt8) (hid:id.length=32) (hkn:(K id).length≤1099511627) (t:Tr) (P:Nat→Bool) (ok:Ok 0 P t) (hl:t.len≤1000000000000) (hwf:(t.cut [id] 0).Wf) (hsz:(t.cut [id] 0).bytes.length≤1099511627776) (w:World) (hm:MV w mv m) (hK:Zq w m K) (hat:At w w.heap.size t (.pointer ap)) :
 Calls Tryz.prog 24 #[.agg #[.int .i64 e,.pointer ap,.int .i64 0,mv],A8 id] w fun x w'=>∃u v,x=.returned (.agg #[u,v])∧Ad w' w.heap.size u (K id)∧I5 w' w.heap.size v (t.cut [id] 0).bytes∧Below w.heap.size w w':=by
 obtain⟨w0,aA⟩:∃x,x=((w.alloc (Obj.cells #[.int .i64 e,.pointer ap,.int .i64 0,mv] 56)).alloc (Obj.cells (c8 id).toArray 35)).alloc (Obj.cells #[.slice none 0 0,.slice none 0 0] 86):=⟨_,rfl⟩;go_enter Tryz.func24,Tryz.ntmps24;go_wp2_with fail;rw[←aA];have B0:Below w.heap.size w w0:=by rw[aA];exact (((Below.refl _ _).alloc (Nat.le_refl _) _).alloc (by simp) _).alloc (by simp;omega) _
 obtain⟨dc,aB⟩:∃z:List Value,z=[.int .i64 e,.pointer ap,.int .i64 0,mv]:=⟨_,rfl⟩;have kd:Bk w0 w.heap.size 56 dc:=by rw[aA,aB];simpa using ((Bk.new w 56 [.int .i64 e,.pointer ap,.int .i64 0,mv]).alloc (.cells (c8 id).toArray 35)).alloc (Obj.cells #[.slice none 0 0,.slice none 0 0] 86)
 have ki:Bk w0 (w.heap.size+1) 35 (c8 id):=by rw[aA];simpa using (Bk.new (w.alloc (Obj.cells #[.int .i64 e,.pointer ap,.int .i64 0,mv] 56)) 35 (c8 id)).alloc (Obj.cells #[.slice none 0 0,.slice none 0 0] 86)
 have ka:Bk w0 (w.heap.size+1+1) 86 [.slice none 0 0,.slice none 0 0]:=by rw[aA];simpa using Bk.new ((w.alloc (Obj.cells #[.int .i64 e,.pointer ap,.int .i64 0,mv] 56)).alloc (Obj.cells (c8 id).toArray 35)) 86 [.slice none 0 0,.slice none 0 0]
 have z0:w.heap.size+3≤w0.heap.size:=by rw[aA];simp
 have aC:=(hat.below B0).more B0.size;have HM:=Lib.hid (hm.up B0);have aU:=Lib.hid (hK.up B0);clear aA hm hK hat;refine E3 (fun W=>Bk W w.heap.size 56 dc∧Bk W (w.heap.size+1) 35 (c8 id)) (by kernel_rfl) ?_;refine C5 (A:=?bG) [0,1,3,4,5] (by kernel_rfl) (by kernel_rfl) rfl (by kernel_rfl) (by kernel_rfl) ⟨kd.drew,ki.drew⟩ (h:=fun W hW=>?aV) (hr:=?bH);case aV=>
  have f1:D9 W ⟨w.heap.size,0,none⟩ 4=some [.int .i64 e,.pointer ap,.int .i64 0,mv]:=by have:=hW.1.row (o:=0) (n:=4) (by rw[aB];simp);rw[this,aB];rfl
  have f2:=Bk.row8 (n:=32) hW.2 hid;have f3:D9 W ⟨w.heap.size,1,none⟩ 2=some [.pointer ap,.int .i64 0]:=by have:=hW.1.row (o:=1) (n:=2) (by rw[aB];simp);rw[this,aB];rfl
  simp only[pick,List.getElem?_cons_zero,List.getElem?_cons_succ];repeat (go_big_quiet_step (fail))
  refine wpQuiet_nil ?_;rfl
 have S0:Below w0.heap.size w0 w0.drew:=(Below.refl _ _).drew;refine Bm [zk 2 7 w0.drew.heap.size (K id),zl 6 11 35 (c8 id)] (by kernel_rfl) (fun W hW=>⟨kd.drew.below hW kd.drew.lt,ki.drew.below hW ki.drew.lt⟩) ?aW ?aX ?aY;case aW=>exact List.forall_mem_cons.2 ⟨zk_mono _ _ _ _,List.forall_mem_cons.2 ⟨zl_mono _ _ _ _,fun _ h=>by cases h⟩⟩
 case aX=>
  refine List.forall_mem_cons.2 ⟨?s1,List.forall_mem_cons.2 ⟨?s4,fun _ h=>by cases h⟩⟩;case s1=>
   intro o ho us W hW hp Q' hQ';obtain rfl:=Option.some.inj ho;clear hp ho;rw[C2]at hQ' ⊢;dsimp only[E5,E6,List.foldl,zk,zl]at hQ' ⊢;simp only[List.set_cons_succ,List.set_cons_zero];have aZ:=Lib.hid (HM.out.up (C1 S0 hW (Nat.le_refl _)));have bA:=Lib.hid (aU.out.up (C1 S0 hW (Nat.le_refl _)));go_wp2_with fail;refine (C1p e ap 0 mv hmv m K id hid hkn W aZ.out bA.out).mono ?_;rintro e W2 ⟨r,rfl,O2,b2⟩;have O2:=Lib.hid (O2.less hW.size);go_wp2_with fail;exact C9 (hQ' _ _ b2 O2.out (fun h=>by cases h)) (by kernel_rfl)
  case s4=>intro o ho us W hW hp Q' hQ';obtain rfl:=Option.some.inj ho;clear hp ho;rw[C2]at hQ' ⊢;dsimp only[E5,E6,List.foldl,zk,zl]at hQ' ⊢;simp only[List.set_cons_succ,List.set_cons_zero];go_wp2_with fail;exact C9 (hQ' _ _ ((Below.refl _ _).alloc (Nat.le_refl _) _) ⟨_,rfl,Bk.new W _ (c8 id)⟩ (fun h=>by cases h)) (by kernel_rfl)
 case aY=>
  intro us W1 b1 hg aG bB;have O1:Ad W1 w0.drew.heap.size (us 2) (K id):=hg _ (List.mem_of_getElem? (i:=0) rfl);obtain⟨p,aF,K4⟩:=hg _ (List.mem_of_getElem? (i:=1) rfl);have aF:us 6=.slice (some ⟨p,0,none⟩) 1 1:=aF;have K4:Bk W1 p 35 (c8 id):=K4;rw[C2];dsimp only[E6,List.foldl,zk,zl];simp only[List.set_cons_succ,List.set_cons_zero];obtain⟨u2,aM⟩:∃z,z=us 2:=⟨_,rfl⟩;rw[←aM]at O1 ⊢;rw[aF];clear hg aG bB aF aM;have aN:=kd.drew.below b1 kd.drew.lt;have aO:=ki.drew.below b1 ki.drew.lt;have aP:=ka.drew.below b1 ka.drew.lt;have B1:=C1 B0 (C1 S0 b1 S0.size) B0.size;have aD:=(aC.below (C1 S0 b1 S0.size)).more (Nat.le_trans S0.size b1.size);obtain⟨A1,c1,bC,_,_⟩:=O1.form;have HO:=Lib.hid O1;have HV:=Lib.hid (Hs.one' hid K4);have HT:=Lib.hid aD;clear O1 K4 aD aC;refine C3 7 (by kernel_rfl) (by rfl) (by rfl) (fun Q' hQ'=>?_);dsimp only[E5];have aE:=Lib.hid hQ';clear hQ';go_wp2_with fail;refine (D2g t P ok hl (.pointer ap) _ [id] W1 (by simp) HT.out HV.out).mono ?_;rintro e W2 ⟨rfl,b2⟩;have aH:=aN.below b2 aN.lt;have aI:=aO.below b2 aO.lt;have aQ:=aP.below b2 aP.lt;have bD:=Lib.hid (HO.out.below b2 (Nat.le_refl _));go_wp2_with fail;refine aE.out _ _ ⟨aH,aI⟩ ?_;clear aE;refine C3 8 (by kernel_rfl) (by rfl) (by rfl) (fun Q' hQ'=>?_);dsimp only[E5];have aE:=Lib.hid hQ';clear hQ';go_wp2_with fail;refine (B6r _ hwf hsz W2).mono ?_;rintro e W3 ⟨v3,rfl,aR,b3⟩;have aJ:=aH.below b3 aH.lt
  have aK:=aI.below b3 aI.lt;have aL:=aQ.below b3 aQ.lt;have aS:=Lib.hid (bD.out.below b3 (Nat.le_refl _));have aT:=Lib.hid aR;go_wp2_with fail;refine aE.out _ _ ⟨aJ,aK⟩ ?_;clear aE aR;obtain⟨A3,c3,bE⟩:∃A c,v3=.slice A (t.cut [id] 0).bytes.length c:=by obtain⟨A,c,e,_⟩:=aT.out.form;exact ⟨A,c,e⟩
  have bF:E7 W3 ⟨w.heap.size+1+1,0,none⟩ 2=true:=aL.can (by simp);have B3:=C1 B1 (C1 b2 b3 b2.size) B1.size;have bI:D9 W3 ⟨w.heap.size+1+1,0,none⟩ 2=some [.slice none 0 0,.slice none 0 0]:=aL.row (o:=0) (n:=2) (by simp);subst bC;subst bE;refine C3 9 (by kernel_rfl) (by rfl) (by rfl) (fun Q' hQ'=>?_);dsimp only[E5];go_wp2_with fail;refine hQ' _ _ ⟨aJ,aK⟩ ?_;clear hQ';refine C3 10 (by kernel_rfl) (by rfl) (by rfl) (fun Q' hQ'=>?_);dsimp only[E5];go_wp2_with fail;refine hQ' _ _ ⟨aJ.putFar (by simp;omega) _,aK.putFar (by simp) _⟩ ?_;clear hQ';refine F0 (by kernel_rfl) ?_;go_wp2_with fail;have zz:w.heap.size+1+1<w0.drew.heap.size:=Nat.lt_of_lt_of_le (by omega) S0.size;have zw:w.heap.size≤w0.drew.heap.size:=by omega
  have z2:w0.drew.heap.size≤W2.heap.size:=Nat.le_trans b1.size b2.size;exact bodyPost_ret (C7 rfl _ _ _ _ _ _ rfl (aL.puts (vs:=[.slice A1 (K id).length c1,.slice A3 (t.cut [id] 0).bytes.length c3]) (by simp)) B5j rfl (by simp[A8w])) rfl
   ⟨_,_,rfl,Ad.less (base:=w0.drew.heap.size) ⟨aS.out.1,B1f aS.out.2 zz _⟩ zw,I5.less (base:=w0.drew.heap.size) (B1f (I5.less aT.out z2) zz _) zw,C0 B3 (by simp;omega) _⟩
end
end
theorem E1q:∀ {t:Tr} {d:Nat} {P:Nat→Bool},Ok d P t→∀(ks:List (List UInt8)) (n:Nat),(t.cut ks n).Wf:=by
 intro t;induction t with
 | e=>intro d P h ks n;unfold Tr.cut Pt.Wf;trivial
 | lf k v=>
  intro d P h ks n;unfold Tr.cut;split
  ·unfold Pt.Wf;exact Tr.root_length _
  ·unfold Pt.Wf;exact ⟨h.1,h.2.1⟩
 | nd l r ihl ihr=>
  intro d P h ks n;unfold Tr.cut;split
  ·unfold Pt.Wf;exact Tr.root_length _
  ·unfold Pt.Wf;exact ⟨ihl h.2.2.1 _ _,ihr h.2.2.2 _ _⟩
theorem C4n:∀ {t:Tr} {d:Nat} {P:Nat→Bool},Ok d P t→d≤256→∀(ks:List (List UInt8)) (n:Nat),(t.cut ks n).bytes.length≤1+t.len*(65+2*(257-d)):=by
 intro t;induction t with
 | e=>intro d P h hd ks n;unfold Tr.cut Pt.bytes;simp
 | lf k v=>
  intro d P h hd ks n;have hr:=Tr.root_length (Tr.lf k v);unfold Tr.cut;split
  ·unfold Pt.bytes;simp[hr,Tr.len];omega
  ·unfold Pt.bytes;simp[h.1,h.2.1,Tr.len];omega
 | nd l r ihl ihr=>
  intro d P h hd ks n;have hr:=Tr.root_length (Tr.nd l r);have h0:=h.1;have h2:=h.2.1;unfold Tr.cut;have el:(Tr.nd l r).len=l.len+r.len:=rfl;rw[el];obtain⟨c,hc⟩:∃c,c=65+2*(257-(d+1)):=⟨_,rfl⟩;have aA:65+2*(257-d)=c+2:=by omega
  rw[aA];have hm:(l.len+r.len)*(c+2)=l.len*c+r.len*c+2*(l.len+r.len):=by rw[Nat.mul_add,Nat.add_mul];omega
  rw[hm];have aB:65*l.len+65*r.len≤l.len*c+r.len*c:=by
   have a:=Nat.mul_le_mul_left l.len (show 65≤c by omega);have b:=Nat.mul_le_mul_left r.len (show 65≤c by omega);omega
  split
  ·unfold Pt.bytes;simp[hr];omega
  ·have a:=ihl h.2.2.1 (by omega) (ks.filter fun x=>!I6 x n) (n+1);have b:=ihr h.2.2.2 (by omega) (ks.filter fun x=>I6 x n) (n+1);rw[←hc]at a b;unfold Pt.bytes;simp only[List.length_append,List.length_singleton];omega
end Go.Proofs.YtdfpoofbgjilgaaGreat
