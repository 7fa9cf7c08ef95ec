/- A part of the proof of AuditBatch. -/
import Derived.Test.YtdfpoofbgjilgaaGreatUbb
set_option linter.unusedVariables false
set_option linter.unusedSimpArgs false
set_option maxRecDepth 100000
set_option maxHeartbeats 40000000
namespace Go.Proofs.YtdfpoofbgjilgaaGreat
open Go Go.RowKit Sh
theorem C9m (k:List UInt8) (d gd:Nat) (hk:k.length=32) (hd:d<256) (w:World) (K:Bk w gd 3 [.int .i64 (d:Int)]) :
 Calls Tryz.prog 150 #[A8 k,.pointer (some ⟨gd,0,none⟩)] w fun e w'=>e=.returned (.bool (E8 k d))∧Below w.heap.size w w':=by
 have c0:(w.alloc (Obj.cells (c8 k).toArray 35)).cell? ⟨gd,0,none⟩=some (.int .i64 (d:Int)):=(K.alloc _).at_ rfl;have hr:C6 (w.alloc (Obj.cells (c8 k).toArray 35)) ⟨w.heap.size,0,none⟩ 32=some (c8 k):=by have:=(Bk.new w 35 (c8 k)).rows;rwa [C3,hk]at this
 go_enter Tryz.func150,Tryz.ntmps150;go_wp2_with fail;refine (Ec k d hk hd _).mono ?_;rintro e w1 ⟨rfl,aA⟩;go_wp2_with fail;go_ret;exact ⟨rfl,((Below.refl _ _).alloc (Nat.le_refl _) _).trans (aA.mono (by simp))⟩
theorem C9b (k:List UInt8) (d gd:Nat) (hk:k.length=32) (hd:d<256) (w:World) (K:Bk w gd 3 [.int .i64 (d:Int)]) :
 Calls Tryz.prog 152 #[A8 k,.pointer (some ⟨gd,0,none⟩)] w fun e w'=>e=.returned (.bool (!E8 k d))∧Below w.heap.size w w':=by
 have c0:(w.alloc (Obj.cells (c8 k).toArray 35)).cell? ⟨gd,0,none⟩=some (.int .i64 (d:Int)):=(K.alloc _).at_ rfl;have hr:C6 (w.alloc (Obj.cells (c8 k).toArray 35)) ⟨w.heap.size,0,none⟩ 32=some (c8 k):=by have:=(Bk.new w 35 (c8 k)).rows;rwa [C3,hk]at this
 go_enter Tryz.func152,Tryz.ntmps152;go_wp2_with fail;refine (Ec k d hk hd _).mono ?_;rintro e w1 ⟨rfl,aA⟩;go_wp2_with fail;go_ret;exact ⟨rfl,((Below.refl _ _).alloc (Nat.le_refl _) _).trans (aA.mono (by simp))⟩
theorem Hs.of_del {w:World} {g cap m:Nat} {L:List (List UInt8)} {tl:List Value} (h:RH w g L tl) (hm:m≤L.length) (hc:L.length≤cap) (hc2:cap≤9223372036854775807):Hs w 0 w.heap.size (.slice (some ⟨g,0,none⟩) m cap) (L.take m):=by
 have e:(L.take m).length=m:=by simp;omega
 refine ⟨fun k hk=>h.1 k (List.mem_of_mem_take hk),some ⟨g,0,none⟩,cap,by rw[e],by omega,by unfold maxLen;exact hc2,.inr ⟨g,0,rfl,Nat.zero_le _,h.lt,fun j u hj=>?_⟩⟩;rw[Nat.zero_add];refine h.2.at_ ?_;have hf:L.flatten=(L.take m).flatten++(L.drop m).flatten:=by rw[←List.flatten_append,List.take_append_drop]
 rw[hf];have:j<(c8 (L.take m).flatten).length:=(List.getElem?_eq_some_iff.1 hj).1;simp only[c8,List.map_append,List.append_assoc]at hj this ⊢;rw[List.getElem?_append_left this];exact hj
theorem C6q (d:Nat) (pt v:Value) (ks:List (List UInt8)) (w:World) (hat:At w w.heap.size .e pt) (hv:Hs w 0 w.heap.size v ks) :
 Calls Tryz.prog 92 #[.agg #[pt,.int .i64 (d:Int)],.int .i64 (d:Int),v] w fun e w'=>e=.returned (Tr.cut .e ks d).val∧Below w.heap.size w w':=by
 obtain⟨W0,aA⟩:∃x,x=(w.alloc (Obj.cells #[pt,.int .i64 (d:Int)] 53)).alloc (Obj.cells #[.int .i64 (d:Int)] 3):=⟨_,rfl⟩;have B0:Below w.heap.size w W0:=by rw[aA];exact ((Below.refl _ _).alloc (Nat.le_refl _) _).alloc (by simp) _
 have A0:At W0 W0.heap.size .e pt:=(hat.below B0).more B0.size;go_enter Tryz.func92,Tryz.ntmps92;go_wp2_with fail;rw[←aA];refine (Fi .e pt d W0 A0).mono ?_;rintro e w1 ⟨rfl,aB⟩;go_wp2_with fail;go_ret;exact ⟨rfl,B0.trans (aB.mono B0.size)⟩
theorem Xc (t:Tr) (hp:0<t.len) (d:Nat) (pt v:Value) (w:World) (hat:At w w.heap.size t pt) (hv:Hs w 0 w.heap.size v []) :
 Calls Tryz.prog 92 #[.agg #[pt,.int .i64 (d:Int)],.int .i64 (d:Int),v] w fun e w'=>e=.returned (Tr.cut t [] d).val∧Below w.heap.size w w':=by
 have ec:Tr.cut t [] d=.hd t.root:=by cases t with | e=>simp[Tr.len]at hp | lf _ _=>rfl | nd _ _=>rfl
 rw[ec];have aD:=t.root_length;obtain⟨A,c,rfl,aE,aF⟩:=hv.form;obtain⟨W0,aB⟩:∃x,x=(w.alloc (Obj.cells #[pt,.int .i64 (d:Int)] 53)).alloc (Obj.cells #[.int .i64 (d:Int)] 3):=⟨_,rfl⟩;have B0:Below w.heap.size w W0:=by rw[aB];exact ((Below.refl _ _).alloc (Nat.le_refl _) _).alloc (by simp) _
 have A0:At W0 W0.heap.size t pt:=(hat.below B0).more B0.size;have KT:Bk W0 w.heap.size 53 [pt,.int .i64 (d:Int)]:=by rw[aB];exact (Bk.new w _ [pt,.int .i64 (d:Int)]).alloc _
 have aG:((t.len:Int)==0)=false:=beq_eq_false_iff_ne.2 (by omega);go_enter Tryz.func92,Tryz.ntmps92;go_wp2_with fail;rw[←aB];clear aB;refine (Fi t pt d W0 A0).mono ?_;rintro e w1 ⟨rfl,aA⟩;have K1:=KT.below aA KT.lt;have A1:=(A0.below aA).more aA.size;have c0:w1.cell? ⟨w.heap.size,0,none⟩=some pt:=K1.at_ rfl;have c1:w1.cell? ⟨w.heap.size,1,none⟩=some (.int .i64 (d:Int)):=K1.at_ rfl;go_wp2_with fail;refine (A4c t pt d w1 A1).mono ?_;rintro e w2 ⟨rfl,aC⟩;go_wp2_with fail;go_ret;exact ⟨rfl,(B0.trans (aA.mono B0.size)).trans (aC.mono (Nat.le_trans B0.size aA.size))⟩
theorem C7k (w:World) {k x:List UInt8} (hk:k.length=32) (hx:x.length=32) :
 C6 (C5 ((w.alloc (Obj.cells (c8 (z8 32)).toArray 35)).alloc (Obj.cells (c8 (z8 32)).toArray 35)) ⟨w.heap.size,0,none⟩ (c8 k)) ⟨w.heap.size,0,none⟩ 32=some (c8 k)∧
 C6 (C5 (C5 ((w.alloc (Obj.cells (c8 (z8 32)).toArray 35)).alloc (Obj.cells (c8 (z8 32)).toArray 35)) ⟨w.heap.size,0,none⟩ (c8 k)) ⟨w.heap.size+1,0,none⟩ (c8 x)) ⟨w.heap.size+1,0,none⟩ 32=some (c8 x):=by
 have h1:=((Bk.new w 35 (c8 (z8 32))).alloc (Obj.cells (c8 (z8 32)).toArray 35)).puts (vs:=c8 k) (by simp[hk]);have h2:Bk ((w.alloc (Obj.cells (c8 (z8 32)).toArray 35)).alloc (Obj.cells (c8 (z8 32)).toArray 35)) (w.heap.size+1) 35 (c8 (z8 32)):=by simpa using Bk.new (w.alloc (Obj.cells (c8 (z8 32)).toArray 35)) 35 (c8 (z8 32))
 have h3:=(h2.putFar (p:=⟨w.heap.size,0,none⟩) (by simp) (c8 k)).puts (vs:=c8 x) (by simp[hx]);have r1:=h1.rows;have r3:=h3.rows;rw[C3,hk]at r1;rw[C3,hx]at r3;exact ⟨r1,r3⟩
theorem C3o (k x:List UInt8) (d:Nat) (P:Nat→Bool) (ok:Ok d P (.lf k x)) (pt v:Value) (ks:List (List UInt8)) (hne:0<ks.length) (w:World) (hat:At w w.heap.size (.lf k x) pt) (hv:Hs w 0 w.heap.size v ks) :
 Calls Tryz.prog 92 #[.agg #[pt,.int .i64 (d:Int)],.int .i64 (d:Int),v] w fun e w'=>e=.returned (Tr.cut (.lf k x) ks d).val∧Below w.heap.size w w':=by
 have ec:Tr.cut (.lf k x) ks d=.lf k x:=by cases ks with | nil=>simp at hne | cons _ _=>rfl
 rw[ec];obtain⟨A,c,rfl,aD,aE⟩:=hv.form;have aF:((ks.length:Int)==0)=false:=beq_eq_false_iff_ne.2 (by omega);have hk:=ok.1;have hx:=ok.2.1;obtain⟨W0,aB⟩:∃y,y=(w.alloc (Obj.cells #[pt,.int .i64 (d:Int)] 53)).alloc (Obj.cells #[.int .i64 (d:Int)] 3):=⟨_,rfl⟩;have B0:Below w.heap.size w W0:=by rw[aB];exact ((Below.refl _ _).alloc (Nat.le_refl _) _).alloc (by simp) _
 have A0:At W0 W0.heap.size (.lf k x) pt:=(hat.below B0).more B0.size;have KT:Bk W0 w.heap.size 53 [pt,.int .i64 (d:Int)]:=by rw[aB];exact (Bk.new w _ [pt,.int .i64 (d:Int)]).alloc _
 go_enter Tryz.func92,Tryz.ntmps92;go_wp2_with fail;rw[←aB];clear aB;refine (Fi (.lf k x) pt d W0 A0).mono ?_;rintro e w1 ⟨rfl,aA⟩;have K1:=KT.below aA KT.lt;have A1:=(A0.below aA).more aA.size;have c0:w1.cell? ⟨w.heap.size,0,none⟩=some pt:=K1.at_ rfl;have c1:w1.cell? ⟨w.heap.size,1,none⟩=some (.int .i64 (d:Int)):=K1.at_ rfl;dsimp only[Tr.len];go_wp2_with fail;refine (A4u (.lf k x) pt d P w1 ok A1).mono ?_;dsimp only[C4i,C6k,B7t];rintro e w2 ⟨rfl,aC⟩;obtain⟨aG,aH⟩:=C7k w2 hk hx;go_wp2_with fail;go_ret;refine ⟨rfl,?_⟩;have hz:w.heap.size≤w2.heap.size:=Nat.le_trans (Nat.le_trans B0.size aA.size) aC.size;have hB:=(B0.trans (aA.mono B0.size)).trans (aC.mono (Nat.le_trans B0.size aA.size));exact C1 (C1 ((hB.alloc hz _).alloc (by simp;omega) _) hz _) (by show w.heap.size≤w2.heap.size+1;omega) _
theorem B6s (l r:Tr) (d:Nat) (P:Nat→Bool) (ok:Ok d P (.nd l r)) (hln:(Tr.nd l r).len≤1000000000000) (pt v:Value) (ks:List (List UInt8)) (hne:0<ks.length) (hsz:ks.length≤1000000000) (w:World) (hat:At w w.heap.size (.nd l r) pt) (hv:Hs w 0 w.heap.size v ks)
 (IHl:∀(pt v:Value) (ks:List (List UInt8)) (w:World),ks.length≤1000000000→At w w.heap.size l pt→Hs w 0 w.heap.size v ks→Calls Tryz.prog 92 #[.agg #[pt,.int .i64 ((d:Int)+1)],.int .i64 ((d:Int)+1),v] w fun e w'=>e=.returned (l.cut ks (d+1)).val∧Below w.heap.size w w')
 (IHr:∀(pt v:Value) (ks:List (List UInt8)) (w:World),ks.length≤1000000000→At w w.heap.size r pt→Hs w 0 w.heap.size v ks→Calls Tryz.prog 92 #[.agg #[pt,.int .i64 ((d:Int)+1)],.int .i64 ((d:Int)+1),v] w fun e w'=>e=.returned (r.cut ks (d+1)).val∧Below w.heap.size w w') :
 Calls Tryz.prog 92 #[.agg #[pt,.int .i64 (d:Int)],.int .i64 (d:Int),v] w fun e w'=>e=.returned (Tr.cut (.nd l r) ks d).val∧Below w.heap.size w w':=by
 have bG:ks.isEmpty=false:=by cases ks with | nil=>simp at hne | cons _ _=>rfl
 have ec:Tr.cut (.nd l r) ks d=.nd (l.cut (ks.filter fun x=>!E8 x d) (d+1)) (r.cut (ks.filter fun x=>E8 x d) (d+1)):=by simp only[Tr.cut,bG,if_false,Bool.false_eq_true]
 rw[ec];clear ec bG;have hd:=ok.1;have cW:=ok.2.1;have bX:=hv.form;obtain⟨A,c,rfl,cX,cY⟩:=bX;have cZ:((ks.length:Int)==0)=false:=beq_eq_false_iff_ne.2 (by omega);obtain⟨W0,aL⟩:∃y,y=(w.alloc (Obj.cells #[pt,.int .i64 (d:Int)] 53)).alloc (Obj.cells #[.int .i64 (d:Int)] 3):=⟨_,rfl⟩;have B0:Below w.heap.size w W0:=by rw[aL];exact ((Below.refl _ _).alloc (Nat.le_refl _) _).alloc (by simp) _
 have A0:At W0 W0.heap.size (.nd l r) pt:=(hat.below B0).more B0.size;have KT:Bk W0 w.heap.size 53 [pt,.int .i64 (d:Int)]:=by rw[aL];exact (Bk.new w _ [pt,.int .i64 (d:Int)]).alloc _
 have KD:Bk W0 (w.heap.size+1) 3 [.int .i64 (d:Int)]:=by rw[aL];simpa using Bk.new (w.alloc (Obj.cells #[pt,.int .i64 (d:Int)] 53)) 3 [.int .i64 (d:Int)]
 have bH:(((Tr.nd l r).len:Int)==0)=false:=beq_eq_false_iff_ne.2 (by simp only[Tr.len];omega);go_enter Tryz.func92,Tryz.ntmps92;go_wp2_with fail;rw[←aL];clear aL;refine (Fi (.nd l r) pt d W0 A0).mono ?_;rintro e w1 ⟨rfl,aD⟩;have K1:=KT.below aD KT.lt;have D1:=KD.below aD KD.lt;have A1:=(A0.below aD).more aD.size;have H1:=(hv.below B0).below (aD.mono B0.size);have c0:w1.cell? ⟨w.heap.size,0,none⟩=some pt:=K1.at_ rfl;have c1:w1.cell? ⟨w.heap.size,1,none⟩=some (.int .i64 (d:Int)):=K1.at_ rfl;have z0:=KD.lt;have B1:=B0.trans (aD.mono B0.size);clear hv hat A0 KT KD B0;go_wp2_with fail;refine (A4u (.nd l r) pt d P w1 ok A1).mono ?_;dsimp only[C4i,C6k,B7t];rintro e w2 ⟨rfl,aE⟩;have z1:=aD.size;have K2:=K1.below aE K1.lt;have D2:=D1.below aE D1.lt;have A2:=(A1.below aE).more aE.size;have H2:=H1.below (aE.mono B1.size);have B2:=B1.trans (aE.mono B1.size);clear A1 K1 D1 H1 B1 c0 c1 aD aE;obtain⟨W3,aQ⟩:∃y,y=C5 (C5 ((w2.alloc (Obj.cells (c8 (z8 32)).toArray 35)).alloc (Obj.cells (c8 (z8 32)).toArray 35)) ⟨w2.heap.size,0,none⟩ (c8 (z8 32))) ⟨w2.heap.size+1,0,none⟩ (c8 (z8 32)):=⟨_,rfl⟩;have aF:Below w2.heap.size w2 W3:=by rw[aQ];exact C1 (C1 (((Below.refl _ _).alloc (Nat.le_refl _) _).alloc (by simp) _) (Nat.le_refl _) _) (by simp) _
 have K3:=K2.below aF K2.lt;have D3:=D2.below aF D2.lt;have A3:=(A2.below aF).more aF.size;have H3:=H2.below (aF.mono B2.size);have B3:=B2.trans (aF.mono B2.size);have c0:W3.cell? ⟨w.heap.size,0,none⟩=some pt:=K3.at_ rfl;have c1:W3.cell? ⟨w.heap.size,1,none⟩=some (.int .i64 (d:Int)):=K3.at_ rfl;rw[aQ]at c0 c1;go_wp2_with fail;rw[←aQ];clear aQ c0 c1 aF K2 D2 A2 H2;refine (B4l (.nd l r) pt d P W3 ok (by omega) A3).mono ?_;dsimp only[D4o,D5t,E2h,C6f];rintro e w4 ⟨pl,pr,rfl,AL,AR,aR⟩;have D4:=D3.below aR D3.lt;have H4:=H3.below (aR.mono B3.size);have B4:=B3.trans (aR.mono B3.size);obtain⟨W5,aM⟩:∃y,y=(w4.alloc (Obj.cells #[.pointer pl,.int .i64 ((d:Int)+1)] 53)).alloc (Obj.cells #[.pointer pr,.int .i64 ((d:Int)+1)] 53):=⟨_,rfl⟩;have aC:Below w4.heap.size w4 W5:=by rw[aM];exact ((Below.refl _ _).alloc (Nat.le_refl _) _).alloc (by simp) _
 have L5:Bk W5 w4.heap.size 53 [.pointer pl,.int .i64 ((d:Int)+1)]:=by rw[aM];exact (Bk.new w4 _ [_,_]).alloc _
 have R5:Bk W5 (w4.heap.size+1) 53 [.pointer pr,.int .i64 ((d:Int)+1)]:=by rw[aM];simpa using Bk.new (w4.alloc (Obj.cells #[.pointer pl,.int .i64 ((d:Int)+1)] 53)) 53 [.pointer pr,.int .i64 ((d:Int)+1)]
 have D5:=D4.below aC D4.lt;have H5:=(H4.below (aC.mono B4.size)).more (Nat.le_trans B4.size aC.size);have bI:=(AL.below aC).more aC.size;have bJ:=(AR.below aC).more aC.size;have B5:=B4.trans (aC.mono B4.size);clear K3 D3 A3 H3 B3 D4 H4 AL AR aR;go_wp2_with fail;rw[←aM];clear aM;refine (A5v _ ks W5 H5 hne (by omega)).mono ?_;rintro e w6 ⟨g6,aN,bY,rfl,bZ,R6,cA,bK,aK⟩;go_wp2_with fail;have D6:=D5.below aK D5.lt;have zD:=D5.lt;have B6:=B5.trans (aK.mono B5.size);refine (B8t 150 (.pointer (some ⟨w.heap.size+1,0,none⟩)) (fun k=>E8 k d) (enters_of Tryz.func150 (by kernel_rfl) rfl) W5.heap.size W5 (fun W x hx hb=>(C9m x d _ hx hd W (D5.below hb zD))) g6 aN ks bY (by omega) cA bK w6 bZ aK R6).mono ?_;rintro e w7 ⟨m7,L7,rfl,aY,bL,R7,cB,bM⟩;have aS:=Hs.of_del R7 (m:=m7) (by rw[cB,aY];exact List.length_filter_le _ _) (by omega) bK;rw[bM]at aS;have aG:Below W5.heap.size W5 w7:=aK.grown bL aK.size (fun k hk=>by injection hk with hk;omega);have z7:=aG.size;have aZ:m7≤ks.length:=by rw[aY];exact List.length_filter_le _ _
 obtain⟨u7,bN⟩:∃u,u=Value.slice (some ⟨g6,0,none⟩) m7 aN:=⟨_,rfl⟩;rw[←bN]at aS ⊢;have cC:(ks.filter fun k=>!E8 k d).length≤1000000000:=by omega
 clear R6 aK bL bM R7 D6 B6 bN aY aZ;go_wp2_with fail;refine (A5v _ ks w7 ((H5.below aG).more aG.size) hne (by omega)).mono ?_;rintro e w8 ⟨bO,aO,cD,rfl,cE,R8,cF,bP,aT⟩;go_wp2_with fail;have D7:=D5.below aG zD;have cG:=D7.lt;refine (B8t 152 (.pointer (some ⟨w.heap.size+1,0,none⟩)) (fun k=>!E8 k d) (enters_of Tryz.func152 (by kernel_rfl) rfl) w7.heap.size w7 (fun W x hx hb=>(C9b x d _ hx hd W (D7.below hb cG))) bO aO ks cD (by omega) cF bP w8 cE aT R8).mono ?_;rintro e w9 ⟨m9,L9,rfl,aU,bQ,R9,cH,bR⟩;have aV:=Hs.of_del R9 (m:=m9) (by rw[cH,aU];exact List.length_filter_le _ _) (by omega) bP;rw[bR]at aV;have aP:Below w7.heap.size w7 w9:=aT.grown bQ aT.size (fun k hk=>by injection hk with hk;omega);have bA:m9≤ks.length:=by rw[aU];exact List.length_filter_le _ _
 have z9:=aP.size;have aA:=aG.trans (aP.mono aG.size);have bB:=(aS.below aP).more aP.size;simp only[Bool.not_not]at aV aU;obtain⟨u9,bS⟩:∃u,u=Value.slice (some ⟨bO,0,none⟩) m9 aO:=⟨_,rfl⟩;rw[←bS]at aV ⊢;have cI:(ks.filter fun k=>E8 k d).length≤1000000000:=by omega
 clear bS aU bA;have bC:=L5.below aA L5.lt;have bD:=R5.below aA R5.lt;have bT:=D5.below aA D5.lt;have cJ:=(bI.below aA).more aA.size;have cK:=(bJ.below aA).more aA.size;have B9:=B5.trans (aA.mono B5.size);clear R8 aT bQ bR R9 D7 L5 R5 D5 bI bJ H5 aS aG aP aA aC B5;go_wp2_with fail;have S9:Below w9.heap.size w9 w9.drew:=(Below.refl _ _).drew;have zl:=bC.lt;have zr:=bD.lt;have zd:=bT.lt;refine D9 (fun W=>Below w9.heap.size w9 W) (by kernel_rfl) ?_;refine C4 (A:=?A1) [0,1,2,3,5,6,7,8] (by kernel_rfl) (by kernel_rfl) rfl (by kernel_rfl) (by kernel_rfl) S9 (h:=fun W hW=>?h1) (hr:=?r1);case h1=>
  have c0:W.cell? ⟨w4.heap.size,0,none⟩=some (.pointer pl):=(bC.below hW zl).at_ rfl;have c1:W.cell? ⟨w4.heap.size,1,none⟩=some (.int .i64 ((d:Int)+1)):=(bC.below hW zl).at_ rfl;have c2:W.cell? ⟨w4.heap.size+1,0,none⟩=some (.pointer pr):=(bD.below hW zr).at_ rfl;have c3:W.cell? ⟨w4.heap.size+1,1,none⟩=some (.int .i64 ((d:Int)+1)):=(bD.below hW zr).at_ rfl;have c4:W.cell? ⟨w.heap.size+1,0,none⟩=some (.int .i64 (d:Int)):=(bT.below hW zd).at_ rfl;simp only[pick,List.getElem?_cons_zero,List.getElem?_cons_succ];repeat (go_big_quiet_step (fail))
  refine wpQuiet_nil ?_;rfl
 case r1=>
  have dC:=S9;refine C2 4 (by kernel_rfl) (by rfl) (by rfl) (fun Q' hQ'=>?_);dsimp only[D8];go_wp2_with fail;refine (IHl (.pointer pl) u7 _ w9.drew cC (cJ.below S9) (bB.below S9)).mono ?_;rintro e bU ⟨rfl,bE⟩;have aH:Below w9.heap.size w9 bU:=S9.trans bE;go_wp2_with fail;refine hQ' _ _ aH ?_;clear hQ';refine C2 9 (by kernel_rfl) (by rfl) (by rfl) (fun Q' hQ'=>?_);dsimp only[D8];go_wp2_with fail;refine (IHr (.pointer pr) u9 _ bU cI ((cK.below aH).more aH.size) ((aV.below aH).more aH.size)).mono ?_;rintro e cL ⟨rfl,bF⟩;have aB:Below w9.heap.size w9 cL:=aH.trans (bF.mono aH.size);go_wp2_with fail;refine hQ' _ _ aB ?_;clear hQ';obtain⟨cM,aI⟩:∃x,x=l.cut (ks.filter fun x=>!E8 x d) (d+1):=⟨_,rfl⟩;obtain⟨cN,aJ⟩:∃x,x=r.cut (ks.filter fun x=>E8 x d) (d+1):=⟨_,rfl⟩;rw[←aI,←aJ];have aW:=Lib.hid aI;have aX:=Lib.hid aJ;clear aI aJ;rcases cM.form with hfl | ⟨tl',xl',hfl⟩<;>rcases cN.form with hfr | ⟨tr',xr',hfr⟩<;>rw[hfl,hfr]
  ·refine C4 (A:=?dD) [10,11] (by kernel_rfl) (by kernel_rfl) rfl (by kernel_rfl) (by kernel_rfl) aB (h:=fun W hW=>?cO) (hr:=?cP);case cO=>
    simp only[List.append_eq,List.nil_append,List.cons_append,pick,List.getElem?_cons_zero,List.getElem?_cons_succ];repeat (go_big_quiet_step (fail))
    refine wpQuiet_nil ?_;rfl
   case cP=>refine C2 12 (by kernel_rfl) (by rfl) (by rfl) (fun Q' hQ'=>?_);dsimp only[D8];go_wp2_with fail;refine hQ' _ _ aB ?_;clear hQ';refine E5 (by kernel_rfl) ?_;go_wp2_with fail;go_ret;exact ⟨by rw[←aW.out,←aX.out];simp only[Pt.val,hfl,hfr];rfl,B9.trans (aB.mono B9.size)⟩
  ·refine C4 (A:=?dF) [10,11] (by kernel_rfl) (by kernel_rfl) rfl (by kernel_rfl) (by kernel_rfl) aB (h:=fun W hW=>?cQ) (hr:=?cR);case cQ=>
    simp only[List.append_eq,List.nil_append,List.cons_append,pick,List.getElem?_cons_zero,List.getElem?_cons_succ];repeat (go_big_quiet_step (fail))
    refine wpQuiet_nil ?_;rfl
   case cR=>refine C2 12 (by kernel_rfl) (by rfl) (by rfl) (fun Q' hQ'=>?_);dsimp only[D8];go_wp2_with fail;refine hQ' _ _ aB ?_;clear hQ';refine E5 (by kernel_rfl) ?_;go_wp2_with fail;go_ret;exact ⟨by rw[←aW.out,←aX.out];simp only[Pt.val,hfl,hfr];rfl,B9.trans (aB.mono B9.size)⟩
  ·refine C4 (A:=?dG) [10,11] (by kernel_rfl) (by kernel_rfl) rfl (by kernel_rfl) (by kernel_rfl) aB (h:=fun W hW=>?cS) (hr:=?cT);case cS=>
    simp only[List.append_eq,List.nil_append,List.cons_append,pick,List.getElem?_cons_zero,List.getElem?_cons_succ];repeat (go_big_quiet_step (fail))
    refine wpQuiet_nil ?_;rfl
   case cT=>refine C2 12 (by kernel_rfl) (by rfl) (by rfl) (fun Q' hQ'=>?_);dsimp only[D8];go_wp2_with fail;refine hQ' _ _ aB ?_;clear hQ';refine E5 (by kernel_rfl) ?_;go_wp2_with fail;go_ret;exact ⟨by rw[←aW.out,←aX.out];simp only[Pt.val,hfl,hfr];rfl,B9.trans (aB.mono B9.size)⟩
  ·refine C4 (A:=?dI) [10,11] (by kernel_rfl) (by kernel_rfl) rfl (by kernel_rfl) (by kernel_rfl) aB (h:=fun W hW=>?cU) (hr:=?cV);case cU=>
    simp only[List.append_eq,List.nil_append,List.cons_append,pick,List.getElem?_cons_zero,List.getElem?_cons_succ];repeat (go_big_quiet_step (fail))
    refine wpQuiet_nil ?_;rfl
   case cV=>refine C2 12 (by kernel_rfl) (by rfl) (by rfl) (fun Q' hQ'=>?_);dsimp only[D8];go_wp2_with fail;refine hQ' _ _ aB ?_;clear hQ';refine E5 (by kernel_rfl) ?_;go_wp2_with fail;go_ret;exact ⟨by rw[←aW.out,←aX.out];simp only[Pt.val,hfl,hfr];rfl,B9.trans (aB.mono B9.size)⟩
theorem C7r:∀(t:Tr) (d:Nat) (P:Nat→Bool),Ok d P t→t.len≤1000000000000→∀(pt v:Value) (ks:List (List UInt8)) (w:World),ks.length≤1000000000→At w w.heap.size t pt→Hs w 0 w.heap.size v ks→
 Calls Tryz.prog 92 #[.agg #[pt,.int .i64 (d:Int)],.int .i64 (d:Int),v] w fun e w'=>e=.returned (t.cut ks d).val∧Below w.heap.size w w':=by
 intro t;induction t with
 | e=>intro d P ok hl pt v ks w hk aA hv;exact C6q d pt v ks w aA hv
 | lf k x=>
  intro d P ok hl pt v ks w hk aA hv;cases ks with
  | nil=>exact Xc (.lf k x) (by simp[Tr.len]) d pt v w aA hv
  | cons a ks=>exact C3o k x d P ok pt v (a::ks) (by simp) w aA hv
 | nd l r ihl ihr=>
  intro d P ok hl pt v ks w hk aA hv;cases ks with
  | nil=>exact Xc (.nd l r) (by have:=ok.2.1;simp only[Tr.len];omega) d pt v w aA hv
  | cons a ks=>
   have h1:=ihl (d+1) _ ok.2.2.1 (by simp only[Tr.len]at hl;omega);have h2:=ihr (d+1) _ ok.2.2.2 (by simp only[Tr.len]at hl;omega);simp only[Int.natCast_add,Int.cast_ofNat_Int]at h1 h2;exact B6s l r d P ok hl pt v (a::ks) (by simp) hk w aA hv h1 h2
theorem C9e (t:Tr) (P:Nat→Bool) (ok:Ok 0 P t) (hl:t.len≤1000000000000) (pt v:Value) (ks:List (List UInt8)) (w:World) (hk:ks.length≤1000000000) (hat:At w w.heap.size t pt) (hv:Hs w 0 w.heap.size v ks) :
 Calls Tryz.prog 47 #[.agg #[pt,.int .i64 0],v] w fun e w'=>e=.returned (.agg #[(t.cut ks 0).val])∧Below w.heap.size w w':=by
 obtain⟨W0,aA⟩:∃x,x=(w.alloc (Obj.cells #[pt,.int .i64 0] 53)).alloc (Obj.cells #[.nilIface] 122):=⟨_,rfl⟩;have B0:Below w.heap.size w W0:=by rw[aA];exact ((Below.refl _ _).alloc (Nat.le_refl _) _).alloc (by simp) _
 have R0:Bk W0 (w.heap.size+1) 122 [.nilIface]:=by rw[aA];simpa using Bk.new (w.alloc (Obj.cells #[pt,.int .i64 0] 53)) 122 [.nilIface]
 have c0:W0.cell? ⟨w.heap.size,0,none⟩=some pt:=by rw[aA];exact ((Bk.new w 53 [pt,.int .i64 0]).alloc _).at_ rfl
 have c1:W0.cell? ⟨w.heap.size,1,none⟩=some (.int .i64 0):=by rw[aA];exact ((Bk.new w 53 [pt,.int .i64 0]).alloc _).at_ rfl
 rw[aA]at c0 c1;have hc:=C7r t 0 P ok hl pt v ks W0 hk ((hat.below B0).more B0.size) ((hv.below B0).more B0.size);obtain⟨q,hq⟩:∃q,q=t.cut ks 0:=⟨_,rfl⟩;rw[←hq]at hc ⊢;clear hq;go_enter Tryz.func47,Tryz.ntmps47;go_wp2_with fail;rw[←aA];refine hc.mono ?_;rintro e w1 ⟨rfl,h1⟩;have R1:=R0.below h1 R0.lt;have c2:w1.cell? ⟨w.heap.size+1,0,none⟩=some .nilIface:=R1.at_ rfl;have f2:=R1.frozen 0;have B1:=C0 B0 h1 B0.size;clear aA;rcases q.form with hfl | ⟨tl',xl',hfl⟩<;>rw[hfl]
 ·go_wp2_with fail;exact bodyPost_ret (C8 rfl _ _ _ _ _ _ rfl (R1.set_ 0 .nilIface) Tryz.underlying122 rfl (by kernel_rfl)) rfl ⟨by rw[hfl];rfl,B1.setCell (by simp) _⟩
 ·go_wp2_with fail;exact bodyPost_ret (C8 rfl _ _ _ _ _ _ rfl (R1.set_ 0 (.iface tl' xl')) Tryz.underlying122 rfl (by kernel_rfl)) rfl ⟨by rw[hfl];rfl,B1.setCell (by simp) _⟩
def Pv (o:Option Pt) (q:Pt) (n:Int):Prop:=match o with | some x=>x=q∧n=0 | none=>q=.e∧n=100
theorem C8t (p:Pt) (k v:List UInt8) (hk:k.length=32) (hv:v.length=32) (P:Nat→Bool) (ok:p.Ok 0 P) (w:World) :
 Calls Tryz.prog 101 #[.agg #[p.val],A8 k,A8 v] w fun e w'=>∃(q:Pt) (n:Int),e=.returned (.tuple #[.agg #[q.val],.int .i64 n])∧Pv (p.put k v 256 0) q n∧Below w.heap.size w w':=by
 obtain⟨W0,aA⟩:∃x,x=(((w.alloc (Obj.cells #[p.val] 122)).alloc (Obj.cells (c8 k).toArray 35)).alloc (Obj.cells (c8 v).toArray 35)).alloc (Obj.cells #[.nilIface] 122):=⟨_,rfl⟩;have B0:Below w.heap.size w W0:=by rw[aA];exact ((((Below.refl _ _).alloc (Nat.le_refl _) _).alloc (by simp) _).alloc (by simp;omega) _).alloc (by simp;omega) _
 have R0:Bk W0 (w.heap.size+1+1+1) 122 [.nilIface]:=by rw[aA];simpa using Bk.new (((w.alloc (Obj.cells #[p.val] 122)).alloc (Obj.cells (c8 k).toArray 35)).alloc (Obj.cells (c8 v).toArray 35)) 122 [.nilIface]
 have c0:W0.cell? ⟨w.heap.size,0,none⟩=some p.val:=by rw[aA];exact (((Bk.new w 122 [p.val]).alloc _).alloc _).alloc _ |>.at_ rfl
 have K0:Bk W0 (w.heap.size+1) 35 (c8 k):=by rw[aA];exact ((by simpa using Bk.new (w.alloc (Obj.cells #[p.val] 122)) 35 (c8 k):Bk _ _ _ _).alloc _).alloc _
 have V0:Bk W0 (w.heap.size+1+1) 35 (c8 v):=by rw[aA];exact (by simpa using Bk.new ((w.alloc (Obj.cells #[p.val] 122)).alloc (Obj.cells (c8 k).toArray 35)) 35 (c8 v):Bk _ _ _ _).alloc _
 have rk:=K0.rows;have rv:=V0.rows;rw[C3,hk]at rk;rw[C3,hv]at rv;rw[aA]at c0 rk rv;have hc:=C9p k v hk hv 256 0 p P W0 rfl ok (fun i hi=>by omega);go_enter Tryz.func101,Tryz.ntmps101;go_wp2_with fail;rw[←aA];refine hc.mono ?_;rintro e w1 ⟨q,n,rfl,hr,h1⟩;have R1:=R0.below h1 R0.lt;have c2:w1.cell? ⟨w.heap.size+1+1+1,0,none⟩=some .nilIface:=R1.at_ rfl;have f2:=R1.frozen 0;have B1:=C0 B0 h1 B0.size;clear aA c0 rk rv hc;have hn:n=0∨n=100:=by
  unfold Vg at hr;split at hr
  ·exact .inl hr.2
  ·exact .inr hr
 rcases hn with rfl | rfl
 ·have aB:Pv (p.put k v 256 0) q 0:=by
   unfold Vg at hr;unfold Pv;split at hr
   ·rename_i h;rw[h];exact hr
   ·cases hr
  clear hr;rcases q.form with hfl | ⟨tl',xl',hfl⟩<;>rw[hfl]
  ·go_wp2_with fail;exact bodyPost_ret (E3 rfl (C9.row (R1.set_ 0 .nilIface) rfl _ Tryz.underlying122 rfl (by kernel_rfl)) (C9.tmp rfl)) rfl ⟨q,0,by rw[hfl];rfl,aB,B1.setCell (by simp;omega) _⟩
  ·go_wp2_with fail;exact bodyPost_ret (E3 rfl (C9.row (R1.set_ 0 (.iface tl' xl')) rfl _ Tryz.underlying122 rfl (by kernel_rfl)) (C9.tmp rfl)) rfl ⟨q,0,by rw[hfl];rfl,aB,B1.setCell (by simp;omega) _⟩
 ·have aB:Pv (p.put k v 256 0) .e 100:=by
   unfold Vg at hr;unfold Pv;split at hr
   ·have:=hr.2;cases this
   ·rename_i h;rw[h];exact ⟨rfl,rfl⟩
  clear hr;go_wp2_with fail;exact bodyPost_ret (E3 rfl (C9.row (R1.set_ 0 .nilIface) rfl _ Tryz.underlying122 rfl (by kernel_rfl)) (C9.tmp rfl)) rfl ⟨.e,100,rfl,aB,B1.setCell (by simp;omega) _⟩
section
theorem Ty:(Tryz.prog.info? 56).map (·.size)=some 4:=by kernel_rfl
theorem A6b:(Tryz.prog.info? 53).map (·.size)=some 2:=by kernel_rfl
theorem Qs:Tryz.prog.underlying 56=some (.struct (V9 Tryz.prog 56)):=by kernel_rfl
theorem A9r:Tryz.prog.underlying 53=some (.struct (V9 Tryz.prog 53)):=by kernel_rfl
section
variable (w : World) (ρ : Operand → Value) (dst : Option Tmp) (ty : TypeId) (pos : String) (after : Array Edge) (guard : Option (Nat × Bool))
theorem Fs:RL' 56 4:=LL' Qs Ty
theorem Vt:RL' 53 2:=LL' A9r A6b
end
section
attribute [local go_sem ↓ high] Fs Vt
end
end
theorem D6g:∀ {t:Tr} {d:Nat} {P:Nat→Bool},Ok d P t→∀(ks:List (List UInt8)) (n:Nat),(t.cut ks n).Wf:=by
 intro t;induction t with
 | e=>intro d P h ks n;unfold Tr.cut Pt.Wf;trivial
 | lf k v=>
  intro d P h ks n;unfold Tr.cut;split
  ·unfold Pt.Wf;exact Tr.root_length _
  ·unfold Pt.Wf;exact ⟨h.1,h.2.1⟩
 | nd l r ihl ihr=>
  intro d P h ks n;unfold Tr.cut;split
  ·unfold Pt.Wf;exact Tr.root_length _
  ·unfold Pt.Wf;exact ⟨ihl h.2.2.1 _ _,ihr h.2.2.2 _ _⟩
theorem Vs:∀ {t:Tr} {d:Nat} {P:Nat→Bool},Ok d P t→d≤256→∀(ks:List (List UInt8)) (n:Nat),(t.cut ks n).bytes.length≤1+t.len*(65+2*(257-d)):=by
 intro t;induction t with
 | e=>intro d P h hd ks n;unfold Tr.cut Pt.bytes;simp
 | lf k v=>
  intro d P h hd ks n;have hr:=Tr.root_length (Tr.lf k v);unfold Tr.cut;split
  ·unfold Pt.bytes;simp[hr,Tr.len];omega
  ·unfold Pt.bytes;simp[h.1,h.2.1,Tr.len];omega
 | nd l r ihl ihr=>
  intro d P h hd ks n;have hr:=Tr.root_length (Tr.nd l r);have h0:=h.1;have h2:=h.2.1;unfold Tr.cut;have el:(Tr.nd l r).len=l.len+r.len:=rfl;rw[el];obtain⟨c,hc⟩:∃c,c=65+2*(257-(d+1)):=⟨_,rfl⟩;have aA:65+2*(257-d)=c+2:=by omega
  rw[aA];have hm:(l.len+r.len)*(c+2)=l.len*c+r.len*c+2*(l.len+r.len):=by rw[Nat.mul_add,Nat.add_mul];omega
  rw[hm];have aB:65*l.len+65*r.len≤l.len*c+r.len*c:=by
   have a:=Nat.mul_le_mul_left l.len (show 65≤c by omega);have b:=Nat.mul_le_mul_left r.len (show 65≤c by omega);omega
  split
  ·unfold Pt.bytes;simp[hr];omega
  ·have a:=ihl h.2.2.1 (by omega) (ks.filter fun x=>!E8 x n) (n+1);have b:=ihr h.2.2.2 (by omega) (ks.filter fun x=>E8 x n) (n+1);rw[←hc]at a b;unfold Pt.bytes;simp only[List.length_append,List.length_singleton];omega
end Go.Proofs.YtdfpoofbgjilgaaGreat
