/- A part of the proof of AuditTells. -/
import Derived.Test.YtmllnpokbbabhaaGreatTaz
set_option linter.unusedVariables false
set_option linter.unusedSimpArgs false
set_option maxRecDepth 100000
set_option maxHeartbeats 40000000
namespace Go.Proofs.YtmllnpokbbabhaaGreat
open Go Go.RowKit Sh
section
def UH (w:World) (b:Nat) (us:List UV) (tl:List Value):Prop:=(∀u∈us,u.Ok)∧Bk w b 69 (us.flatMap N9++tl)
theorem E9p:∀ {us:List UV},(∀u∈us,u.Ok)→(us.flatMap N9).length=us.length*129:=by
 intro us;induction us with
 | nil=>intro _;rfl
 | cons u us ih=>
  intro h;have hu:(N9 u).length=129:=(h u (by simp)).len;rw[List.flatMap_cons,List.length_append,ih (fun x hx=>h x (by simp[hx])),hu,List.length_cons];omega
theorem uat:∀ {us:List UV},(∀u∈us,u.Ok)→∀ {i:Nat} {u:UV},us[i]?=some u→((us.flatMap N9).drop (i*129)).take 129=N9 u:=by
 intro us;induction us with
 | nil=>intro _ i u h;simp at h
 | cons x us ih=>
  intro h i u hi;have hx:(N9 x).length=129:=(h x (by simp)).len;cases i with
  | zero=>
   obtain rfl:x=u:=by simpa using hi
   rw[List.flatMap_cons,Nat.zero_mul,List.drop_zero,List.take_append_of_le_length (by omega),List.take_of_length_le (by omega)]
  | succ i=>
   have:=ih (fun y hy=>h y (by simp[hy])) (i:=i) (u:=u) (by simpa using hi);rw[List.flatMap_cons,List.drop_append,List.drop_eq_nil_of_le (by omega),hx];have e:(i+1)*129-129=i*129:=by omega
   rw[e,List.nil_append,this]
section
variable {w w' : World} {b : Nat} {us : List UV} {tl : List Value}
theorem UH.below {B:Nat} (h:UH w b us tl) (hb:Below B w w') (hg:b<B):UH w' b us tl:=⟨h.1,h.2.below hb hg⟩
theorem UH.row (h:UH w b us tl) {i:Nat} {u:UV} (hk:us[i]?=some u):C4 w ⟨b,i*129,none⟩ 129=some (N9 u):=by
 have hi:i<us.length:=(List.getElem?_eq_some_iff.1 hk).1;have hl:=E9p h.1;rw[h.2.row (by rw[List.length_append,hl];omega)];congr 1;have aA:=uat h.1 hk;rw[List.drop_append_of_le_length (by omega),List.take_append_of_le_length (by rw[List.length_drop];omega)];exact aA
end
end
theorem C7x (k:List UInt8) (d gd:Nat) (hk:k.length=32) (hd:d<256) (w:World) (K:Bk w gd 3 [.int .i64 (d:Int)]) :
 Calls Tryz.prog 126 #[A8 k,.pointer (some ⟨gd,0,none⟩)] w fun e w'=>e=.returned (.bool (E3 k d))∧Below w.heap.size w w':=by
 have c0:(w.alloc (Obj.cells (c8 k).toArray 40)).cell? ⟨gd,0,none⟩=some (.int .i64 (d:Int)):=(K.alloc _).at_ rfl;have hr:C4 (w.alloc (Obj.cells (c8 k).toArray 40)) ⟨w.heap.size,0,none⟩ 32=some (c8 k):=by have:=(Bk.new w 40 (c8 k)).rows;rwa [C1,hk]at this
 go_enter Tryz.func126,Tryz.ntmps126;go_wp2_with fail;refine (Ej k d hk hd _).mono ?_;rintro e w1 ⟨rfl,aA⟩;go_wp2_with fail;go_ret;exact ⟨rfl,(U7 _ _).trans (aA.mono (by simp))⟩
theorem D3b (k:List UInt8) (d gd:Nat) (hk:k.length=32) (hd:d<256) (w:World) (K:Bk w gd 3 [.int .i64 (d:Int)]) :
 Calls Tryz.prog 128 #[A8 k,.pointer (some ⟨gd,0,none⟩)] w fun e w'=>e=.returned (.bool (!E3 k d))∧Below w.heap.size w w':=by
 have c0:(w.alloc (Obj.cells (c8 k).toArray 40)).cell? ⟨gd,0,none⟩=some (.int .i64 (d:Int)):=(K.alloc _).at_ rfl;have hr:C4 (w.alloc (Obj.cells (c8 k).toArray 40)) ⟨w.heap.size,0,none⟩ 32=some (c8 k):=by have:=(Bk.new w 40 (c8 k)).rows;rwa [C1,hk]at this
 go_enter Tryz.func128,Tryz.ntmps128;go_wp2_with fail;refine (Ej k d hk hd _).mono ?_;rintro e w1 ⟨rfl,aA⟩;go_wp2_with fail;go_ret;exact ⟨rfl,(U7 _ _).trans (aA.mono (by simp))⟩
theorem Hs.of_del {w:World} {g cap m:Nat} {L:List (List UInt8)} {tl:List Value} (h:RH w g L tl) (hm:m≤L.length) (hc:L.length≤cap) (hc2:cap≤9223372036854775807):Hs w 0 w.heap.size (.slice (some ⟨g,0,none⟩) m cap) (L.take m):=by
 have e:(L.take m).length=m:=by simp;omega
 refine ⟨fun k hk=>h.1 k (List.mem_of_mem_take hk),some ⟨g,0,none⟩,cap,by rw[e],by omega,by unfold maxLen;exact hc2,.inr ⟨g,0,rfl,Nat.zero_le _,h.lt,fun j u hj=>?_⟩⟩;rw[Nat.zero_add];refine h.2.at_ ?_;have hf:L.flatten=(L.take m).flatten++(L.drop m).flatten:=by rw[←List.flatten_append,List.take_append_drop]
 rw[hf];have:j<(c8 (L.take m).flatten).length:=(List.getElem?_eq_some_iff.1 hj).1;simp only[c8,List.map_append,List.append_assoc]at hj this ⊢;rw[List.getElem?_append_left this];exact hj
theorem C9a (d:Nat) (pt v:Value) (ks:List (List UInt8)) (w:World) (hat:At w w.heap.size .e pt) (hv:Hs w 0 w.heap.size v ks) :
 Calls Tryz.prog 73 #[.agg #[pt,.int .i64 (d:Int)],.int .i64 (d:Int),v] w fun e w'=>e=.returned (Tr.cut .e ks d).val∧Below w.heap.size w w':=by
 obtain⟨W0,aA⟩:=D9 ((w.alloc (Obj.cells #[pt,.int .i64 (d:Int)] 31)).alloc (Obj.cells #[.int .i64 (d:Int)] 3));have B0:Below w.heap.size w W0:=by rw[aA];exact (U7 _ _).alloc (by simp) _
 have A0:=(hat.below B0).more B0.size;go_enter Tryz.func73,Tryz.ntmps73;go_wp2_with fail;rw[←aA];refine (Gc .e pt d W0 A0).mono ?_;rintro e w1 ⟨rfl,aB⟩;go_wp2_with fail;go_ret;exact ⟨rfl,B0.trans (aB.mono B0.size)⟩
theorem Ym (t:Tr) (hp:0<t.len) (d:Nat) (pt v:Value) (w:World) (hat:At w w.heap.size t pt) (hv:Hs w 0 w.heap.size v []) :
 Calls Tryz.prog 73 #[.agg #[pt,.int .i64 (d:Int)],.int .i64 (d:Int),v] w fun e w'=>e=.returned (Tr.cut t [] d).val∧Below w.heap.size w w':=by
 have ec:Tr.cut t [] d=.hd t.root:=by cases t with | e=>simp[Tr.len]at hp | lf _ _=>rfl | nd _ _=>rfl
 rw[ec];have aD:=t.root_length;obtain⟨A,c,rfl,aE,aF⟩:=hv.form;obtain⟨W0,aB⟩:=D9 ((w.alloc (Obj.cells #[pt,.int .i64 (d:Int)] 31)).alloc (Obj.cells #[.int .i64 (d:Int)] 3));have B0:Below w.heap.size w W0:=by rw[aB];exact (U7 _ _).alloc (by simp) _
 have A0:=(hat.below B0).more B0.size;have KT:Bk W0 w.heap.size 31 [pt,.int .i64 (d:Int)]:=by rw[aB];exact (Bk.new w _ [pt,.int .i64 (d:Int)]).alloc _
 have aG:((t.len:Int)==0)=false:=beq_eq_false_iff_ne.2 (by omega);go_enter Tryz.func73,Tryz.ntmps73;go_wp2_with fail;rw[←aB];clear aB;refine (Gc t pt d W0 A0).mono ?_;rintro e w1 ⟨rfl,aA⟩;have K1:=KT.bl aA;have A1:=(A0.below aA).more aA.size;have c0:w1.cell? ⟨w.heap.size,0,none⟩=some pt:=K1.at_ rfl;have c1:w1.cell? ⟨w.heap.size,1,none⟩=some (.int .i64 (d:Int)):=K1.at_ rfl;go_wp2_with fail;refine (A7o t pt d w1 A1).mono ?_;rintro e w2 ⟨rfl,aC⟩;go_wp2_with fail;go_ret;exact ⟨rfl,(B0.trans (aA.mono B0.size)).trans (aC.mono (Nat.le_trans B0.size aA.size))⟩
theorem D2f (w:World) {k x:List UInt8} (hk:k.length=32) (hx:x.length=32) :
 C4 (C2 ((w.alloc (Obj.cells (c8 (z8 32)).toArray 40)).alloc (Obj.cells (c8 (z8 32)).toArray 40)) ⟨w.heap.size,0,none⟩ (c8 k)) ⟨w.heap.size,0,none⟩ 32=some (c8 k)∧
 C4 (C2 (C2 ((w.alloc (Obj.cells (c8 (z8 32)).toArray 40)).alloc (Obj.cells (c8 (z8 32)).toArray 40)) ⟨w.heap.size,0,none⟩ (c8 k)) ⟨w.heap.size+1,0,none⟩ (c8 x)) ⟨w.heap.size+1,0,none⟩ 32=some (c8 x):=by
 have h1:=((Bk.new w 40 (c8 (z8 32))).alloc (Obj.cells (c8 (z8 32)).toArray 40)).puts (vs:=c8 k) (by simp[hk]);have h2:Bk ((w.alloc (Obj.cells (c8 (z8 32)).toArray 40)).alloc (Obj.cells (c8 (z8 32)).toArray 40)) (w.heap.size+1) 40 (c8 (z8 32)):=by simpa using Bk.new (w.alloc (Obj.cells (c8 (z8 32)).toArray 40)) 40 (c8 (z8 32))
 have h3:=(h2.putFar (p:=⟨w.heap.size,0,none⟩) (by simp) (c8 k)).puts (vs:=c8 x) (by simp[hx]);have r1:=h1.rows;have r3:=h3.rows;rw[C1,hk]at r1;rw[C1,hx]at r3;exact ⟨r1,r3⟩
theorem C3s (k x:List UInt8) (d:Nat) (P:Nat→Bool) (ok:Ok d P (.lf k x)) (pt v:Value) (ks:List (List UInt8)) (hne:0<ks.length) (w:World) (hat:At w w.heap.size (.lf k x) pt) (hv:Hs w 0 w.heap.size v ks) :
 Calls Tryz.prog 73 #[.agg #[pt,.int .i64 (d:Int)],.int .i64 (d:Int),v] w fun e w'=>e=.returned (Tr.cut (.lf k x) ks d).val∧Below w.heap.size w w':=by
 have ec:Tr.cut (.lf k x) ks d=.lf k x:=by cases ks with | nil=>simp at hne | cons _ _=>rfl
 rw[ec];obtain⟨A,c,rfl,aD,aE⟩:=hv.form;have aF:((ks.length:Int)==0)=false:=beq_eq_false_iff_ne.2 (by omega);have hk:=ok.1;have hx:=ok.2.1;obtain⟨W0,aB⟩:=D9 ((w.alloc (Obj.cells #[pt,.int .i64 (d:Int)] 31)).alloc (Obj.cells #[.int .i64 (d:Int)] 3));have B0:Below w.heap.size w W0:=by rw[aB];exact (U7 _ _).alloc (by simp) _
 have A0:=(hat.below B0).more B0.size;have KT:Bk W0 w.heap.size 31 [pt,.int .i64 (d:Int)]:=by rw[aB];exact (Bk.new w _ [pt,.int .i64 (d:Int)]).alloc _
 go_enter Tryz.func73,Tryz.ntmps73;go_wp2_with fail;rw[←aB];clear aB;refine (Gc (.lf k x) pt d W0 A0).mono ?_;rintro e w1 ⟨rfl,aA⟩;have K1:=KT.bl aA;have A1:=(A0.below aA).more aA.size;have c0:w1.cell? ⟨w.heap.size,0,none⟩=some pt:=K1.at_ rfl;have c1:w1.cell? ⟨w.heap.size,1,none⟩=some (.int .i64 (d:Int)):=K1.at_ rfl;dsimp only[Tr.len];go_wp2_with fail;refine (A6p (.lf k x) pt d P w1 ok A1).mono ?_;dsimp only[D0g,C7z,B9x];rintro e w2 ⟨rfl,aC⟩;obtain⟨aG,aH⟩:=D2f w2 hk hx;go_wp2_with fail;go_ret;refine ⟨rfl,?_⟩;have hz:=Nat.le_trans (Nat.le_trans B0.size aA.size) aC.size;have hB:=(B0.trans (aA.mono B0.size)).trans (aC.mono (Nat.le_trans B0.size aA.size));exact C0 (C0 ((hB.alloc hz _).alloc (by simp;omega) _) hz _) (by show w.heap.size≤w2.heap.size+1;omega) _
theorem B8n (l r:Tr) (d:Nat) (P:Nat→Bool) (ok:Ok d P (.nd l r)) (hln:(Tr.nd l r).len≤1000000000000) (pt v:Value) (ks:List (List UInt8)) (hne:0<ks.length) (hsz:ks.length≤1000000000) (w:World) (hat:At w w.heap.size (.nd l r) pt) (hv:Hs w 0 w.heap.size v ks)
 (IHl:∀(pt v:Value) (ks:List (List UInt8)) (w:World),ks.length≤1000000000→At w w.heap.size l pt→Hs w 0 w.heap.size v ks→Calls Tryz.prog 73 #[.agg #[pt,.int .i64 ((d:Int)+1)],.int .i64 ((d:Int)+1),v] w fun e w'=>e=.returned (l.cut ks (d+1)).val∧Below w.heap.size w w')
 (IHr:∀(pt v:Value) (ks:List (List UInt8)) (w:World),ks.length≤1000000000→At w w.heap.size r pt→Hs w 0 w.heap.size v ks→Calls Tryz.prog 73 #[.agg #[pt,.int .i64 ((d:Int)+1)],.int .i64 ((d:Int)+1),v] w fun e w'=>e=.returned (r.cut ks (d+1)).val∧Below w.heap.size w w') :
 Calls Tryz.prog 73 #[.agg #[pt,.int .i64 (d:Int)],.int .i64 (d:Int),v] w fun e w'=>e=.returned (Tr.cut (.nd l r) ks d).val∧Below w.heap.size w w':=by
 have bG:ks.isEmpty=false:=by cases ks with | nil=>simp at hne | cons _ _=>rfl
 have ec:Tr.cut (.nd l r) ks d=.nd (l.cut (ks.filter fun x=>!E3 x d) (d+1)) (r.cut (ks.filter fun x=>E3 x d) (d+1)):=by simp only[Tr.cut,bG,if_false,Bool.false_eq_true]
 rw[ec];clear ec bG;have hd:=ok.1;have cV:=ok.2.1;have bU:=hv.form;obtain⟨A,c,rfl,cW,cX⟩:=bU;have cY:((ks.length:Int)==0)=false:=beq_eq_false_iff_ne.2 (by omega);obtain⟨W0,aK⟩:=D9 ((w.alloc (Obj.cells #[pt,.int .i64 (d:Int)] 31)).alloc (Obj.cells #[.int .i64 (d:Int)] 3));have B0:Below w.heap.size w W0:=by rw[aK];exact (U7 _ _).alloc (by simp) _
 have A0:=(hat.below B0).more B0.size;have KT:Bk W0 w.heap.size 31 [pt,.int .i64 (d:Int)]:=by rw[aK];exact (Bk.new w _ [pt,.int .i64 (d:Int)]).alloc _
 have KD:Bk W0 (w.heap.size+1) 3 [.int .i64 (d:Int)]:=by rw[aK];simpa using Bk.new (w.alloc (Obj.cells #[pt,.int .i64 (d:Int)] 31)) 3 [.int .i64 (d:Int)]
 have bH:(((Tr.nd l r).len:Int)==0)=false:=beq_eq_false_iff_ne.2 (by simp only[Tr.len];omega);go_enter Tryz.func73,Tryz.ntmps73;go_wp2_with fail;rw[←aK];clear aK;refine (Gc (.nd l r) pt d W0 A0).mono ?_;rintro e w1 ⟨rfl,aD⟩;have K1:=KT.bl aD;have D1:=KD.bl aD;have A1:=(A0.below aD).more aD.size;have H1:=(hv.below B0).below (aD.mono B0.size);have c0:w1.cell? ⟨w.heap.size,0,none⟩=some pt:=K1.at_ rfl;have c1:w1.cell? ⟨w.heap.size,1,none⟩=some (.int .i64 (d:Int)):=K1.at_ rfl;have B1:=B0.trans (aD.mono B0.size);clear hv hat A0 KT KD B0;go_wp2_with fail;refine (A6p (.nd l r) pt d P w1 ok A1).mono ?_;dsimp only[D0g,C7z,B9x];rintro e w2 ⟨rfl,aE⟩;have K2:=K1.bl aE;have D2:=D1.bl aE;have A2:=(A1.below aE).more aE.size;have H2:=H1.below (aE.mono B1.size);have B2:=B1.trans (aE.mono B1.size);clear A1 K1 D1 H1 B1 c0 c1 aD aE;obtain⟨W3,aP⟩:=D9 (C2 (C2 ((w2.alloc (Obj.cells (c8 (z8 32)).toArray 40)).alloc (Obj.cells (c8 (z8 32)).toArray 40)) ⟨w2.heap.size,0,none⟩ (c8 (z8 32))) ⟨w2.heap.size+1,0,none⟩ (c8 (z8 32)));have aF:Below w2.heap.size w2 W3:=by rw[aP];exact C0 (C0 ((U7 _ _).alloc (by simp) _) (Nat.le_refl _) _) (by simp) _
 have K3:=K2.bl aF;have D3:=D2.bl aF;have A3:=(A2.below aF).more aF.size;have H3:=H2.below (aF.mono B2.size);have B3:=B2.trans (aF.mono B2.size);have c0:W3.cell? ⟨w.heap.size,0,none⟩=some pt:=K3.at_ rfl;have c1:W3.cell? ⟨w.heap.size,1,none⟩=some (.int .i64 (d:Int)):=K3.at_ rfl;rw[aP]at c0 c1;go_wp2_with fail;rw[←aP];clear aP c0 c1 aF K2 D2 A2 H2;refine (B8k (.nd l r) pt d P W3 ok (by omega) A3).mono ?_;dsimp only[D7k,D7d,E2t,C9b];rintro e w4 ⟨pl,pr,rfl,AL,AR,aQ⟩;have D4:=D3.bl aQ;have H4:=H3.below (aQ.mono B3.size);have B4:=B3.trans (aQ.mono B3.size);obtain⟨W5,aL⟩:=D9 ((w4.alloc (Obj.cells #[.pointer pl,.int .i64 ((d:Int)+1)] 31)).alloc (Obj.cells #[.pointer pr,.int .i64 ((d:Int)+1)] 31));have aC:Below w4.heap.size w4 W5:=by rw[aL];exact (U7 _ _).alloc (by simp) _
 have L5:Bk W5 w4.heap.size 31 [.pointer pl,.int .i64 ((d:Int)+1)]:=by rw[aL];exact (Bk.new w4 _ [_,_]).alloc _
 have R5:Bk W5 (w4.heap.size+1) 31 [.pointer pr,.int .i64 ((d:Int)+1)]:=by rw[aL];simpa using Bk.new (w4.alloc (Obj.cells #[.pointer pl,.int .i64 ((d:Int)+1)] 31)) 31 [.pointer pr,.int .i64 ((d:Int)+1)]
 have D5:=D4.bl aC;have H5:=(H4.below (aC.mono B4.size)).more (Nat.le_trans B4.size aC.size);have bI:=(AL.below aC).more aC.size;have bJ:=(AR.below aC).more aC.size;have B5:=B4.trans (aC.mono B4.size);clear K3 D3 A3 H3 B3 D4 H4 AL AR aQ;go_wp2_with fail;rw[←aL];clear aL;refine (A5p _ ks W5 H5 hne (by omega)).mono ?_;rintro e w6 ⟨g6,aM,bX,rfl,bY,R6,bZ,bK,aN⟩;go_wp2_with fail;have D6:=D5.bl aN;have zD:=D5.lt;refine (C1s 126 (.pointer (some ⟨w.heap.size+1,0,none⟩)) (fun k=>E3 k d) (enters_of Tryz.func126 (by kernel_rfl) rfl) W5.heap.size W5 (fun W x hx hb=>(C7x x d _ hx hd W (D5.below hb zD))) g6 aM ks bX (by omega) bZ bK w6 bY aN R6).mono ?_;rintro e w7 ⟨m7,L7,rfl,aY,bL,R7,cA,bM⟩;have aR:=Hs.of_del R7 (m:=m7) (by rw[cA,aY];exact List.length_filter_le _ _) (by omega) bK;rw[bM]at aR;have aJ:=aN.grown bL aN.size (fun k hk=>by injection hk with hk;omega);have aZ:m7≤ks.length:=by rw[aY];exact List.length_filter_le _ _
 obtain⟨u7,bN⟩:=D9 (Value.slice (some ⟨g6,0,none⟩) m7 aM);rw[←bN]at aR ⊢;have cB:(ks.filter fun k=>!E3 k d).length≤1000000000:=by omega
 clear R6 aN bL bM R7 D6 bN aY aZ;go_wp2_with fail;refine (A5p _ ks w7 ((H5.below aJ).more aJ.size) hne (by omega)).mono ?_;rintro e w8 ⟨bO,aO,cC,rfl,cD,R8,cE,bP,aS⟩;go_wp2_with fail;have D7:=D5.below aJ zD;have cF:=D7.lt;refine (C1s 128 (.pointer (some ⟨w.heap.size+1,0,none⟩)) (fun k=>!E3 k d) (enters_of Tryz.func128 (by kernel_rfl) rfl) w7.heap.size w7 (fun W x hx hb=>(D3b x d _ hx hd W (D7.below hb cF))) bO aO ks cC (by omega) cE bP w8 cD aS R8).mono ?_;rintro e w9 ⟨m9,L9,rfl,aT,bQ,R9,cG,bR⟩;have aU:=Hs.of_del R9 (m:=m9) (by rw[cG,aT];exact List.length_filter_le _ _) (by omega) bP;rw[bR]at aU;have aV:=aS.grown bQ aS.size (fun k hk=>by injection hk with hk;omega);have bA:m9≤ks.length:=by rw[aT];exact List.length_filter_le _ _
 have aA:=aJ.trans (aV.mono aJ.size);have bB:=(aR.below aV).more aV.size;simp only[Bool.not_not]at aU aT;obtain⟨u9,bS⟩:=D9 (Value.slice (some ⟨bO,0,none⟩) m9 aO);rw[←bS]at aU ⊢;have cH:(ks.filter fun k=>E3 k d).length≤1000000000:=by omega
 clear bS aT bA;have bC:=L5.bl aA;have bD:=R5.bl aA;have bT:=D5.bl aA;have cI:=(bI.below aA).more aA.size;have cJ:=(bJ.below aA).more aA.size;have B9:=B5.trans (aA.mono B5.size);clear R8 aS bQ bR R9 D7 L5 R5 D5 bI bJ H5 aR aJ aV aA aC B5;go_wp2_with fail;have S9:=Nq w9;have zl:=bC.lt;have zr:=bD.lt;have zd:=bT.lt;refine Ij (fun W=>Below w9.heap.size w9 W) ?_;refine Cn (A:=?A1) [0,1,2,3,5,6,7,8] S9 (fun W hW=>?h1) ?r1;case h1=>
  have c0:W.cell? ⟨w4.heap.size,0,none⟩=some (.pointer pl):=(bC.below hW zl).at_ rfl;have c1:W.cell? ⟨w4.heap.size,1,none⟩=some (.int .i64 ((d:Int)+1)):=(bC.below hW zl).at_ rfl;have c2:W.cell? ⟨w4.heap.size+1,0,none⟩=some (.pointer pr):=(bD.below hW zr).at_ rfl;have c3:W.cell? ⟨w4.heap.size+1,1,none⟩=some (.int .i64 ((d:Int)+1)):=(bD.below hW zr).at_ rfl;have c4:W.cell? ⟨w.heap.size+1,0,none⟩=some (.int .i64 (d:Int)):=(bT.below hW zd).at_ rfl;exact Fa
 case r1=>
  have cZ:=S9;refine Q6 4 fun Q' hQ'=>?_;dsimp only[C6];go_wp2_with fail;refine (IHl (.pointer pl) u7 _ w9.drew cB (cI.below S9) (bB.below S9)).mono ?_;rintro e cK ⟨rfl,bE⟩;have aG:=S9.trans bE;go_wp2_with fail;refine hQ' _ _ aG ?_;clear hQ';refine Q6 9 fun Q' hQ'=>?_;dsimp only[C6];go_wp2_with fail;refine (IHr (.pointer pr) u9 _ cK cH ((cJ.below aG).more aG.size) ((aU.below aG).more aG.size)).mono ?_;rintro e dC ⟨rfl,bF⟩;have aB:=aG.trans (bF.mono aG.size);go_wp2_with fail;refine hQ' _ _ aB ?_;clear hQ';obtain⟨cL,aH⟩:=D9 (l.cut (ks.filter fun x=>!E3 x d) (d+1));obtain⟨cM,aI⟩:=D9 (r.cut (ks.filter fun x=>E3 x d) (d+1));rw[←aH,←aI];have aW:=Lib.hid aH;have aX:=Lib.hid aI;clear aH aI;rcases cL.form with hfl | ⟨tl',xl',hfl⟩<;>rcases cM.form with hfr | ⟨tr',xr',hfr⟩<;>rw[hfl,hfr]
  ·refine Cn (A:=?dD) [10,11] aB (fun W hW=>?cN) ?cO;case cN=>
    simp only[List.append_eq,Nw,pick,Se];repeat (go_big_quiet_step (fail))
    refine wpQuiet_nil ?_;rfl
   case cO=>refine Q6 12 fun Q' hQ'=>?_;dsimp only[C6];go_wp2_with fail;refine hQ' _ _ aB ?_;clear hQ';refine Gn ?_;go_wp2_with fail;go_ret;exact ⟨by rw[←aW.out,←aX.out];simp only[Pt.val,hfl,hfr];rfl,B9.trans (aB.mono B9.size)⟩
  ·refine Cn (A:=?dF) [10,11] aB (fun W hW=>?cP) ?cQ;case cP=>
    simp only[List.append_eq,Nw,pick,Se];repeat (go_big_quiet_step (fail))
    refine wpQuiet_nil ?_;rfl
   case cQ=>refine Q6 12 fun Q' hQ'=>?_;dsimp only[C6];go_wp2_with fail;refine hQ' _ _ aB ?_;clear hQ';refine Gn ?_;go_wp2_with fail;go_ret;exact ⟨by rw[←aW.out,←aX.out];simp only[Pt.val,hfl,hfr];rfl,B9.trans (aB.mono B9.size)⟩
  ·refine Cn (A:=?dG) [10,11] aB (fun W hW=>?cR) ?cS;case cR=>
    simp only[List.append_eq,Nw,pick,Se];repeat (go_big_quiet_step (fail))
    refine wpQuiet_nil ?_;rfl
   case cS=>refine Q6 12 fun Q' hQ'=>?_;dsimp only[C6];go_wp2_with fail;refine hQ' _ _ aB ?_;clear hQ';refine Gn ?_;go_wp2_with fail;go_ret;exact ⟨by rw[←aW.out,←aX.out];simp only[Pt.val,hfl,hfr];rfl,B9.trans (aB.mono B9.size)⟩
  ·refine Cn (A:=?dI) [10,11] aB (fun W hW=>?cT) ?cU;case cT=>
    simp only[List.append_eq,Nw,pick,Se];repeat (go_big_quiet_step (fail))
    refine wpQuiet_nil ?_;rfl
   case cU=>refine Q6 12 fun Q' hQ'=>?_;dsimp only[C6];go_wp2_with fail;refine hQ' _ _ aB ?_;clear hQ';refine Gn ?_;go_wp2_with fail;go_ret;exact ⟨by rw[←aW.out,←aX.out];simp only[Pt.val,hfl,hfr];rfl,B9.trans (aB.mono B9.size)⟩
theorem D3a:∀(t:Tr) (d:Nat) (P:Nat→Bool),Ok d P t→t.len≤1000000000000→∀(pt v:Value) (ks:List (List UInt8)) (w:World),ks.length≤1000000000→At w w.heap.size t pt→Hs w 0 w.heap.size v ks→
 Calls Tryz.prog 73 #[.agg #[pt,.int .i64 (d:Int)],.int .i64 (d:Int),v] w fun e w'=>e=.returned (t.cut ks d).val∧Below w.heap.size w w':=by
 intro t;induction t with
 | e=>intro d P ok hl pt v ks w hk aA hv;exact C9a d pt v ks w aA hv
 | lf k x=>
  intro d P ok hl pt v ks w hk aA hv;cases ks with
  | nil=>exact Ym (.lf k x) (by simp[Tr.len]) d pt v w aA hv
  | cons a ks=>exact C3s k x d P ok pt v (a::ks) (by simp) w aA hv
 | nd l r ihl ihr=>
  intro d P ok hl pt v ks w hk aA hv;cases ks with
  | nil=>exact Ym (.nd l r) (by have:=ok.2.1;simp only[Tr.len];omega) d pt v w aA hv
  | cons a ks=>
   have h1:=ihl (d+1) _ ok.2.2.1 (by simp only[Tr.len]at hl;omega);have h2:=ihr (d+1) _ ok.2.2.2 (by simp only[Tr.len]at hl;omega);simp only[Int.natCast_add,Int.cast_ofNat_Int]at h1 h2;exact B8n l r d P ok hl pt v (a::ks) (by simp) hk w aA hv h1 h2
theorem D2w (t:Tr) (P:Nat→Bool) (ok:Ok 0 P t) (hl:t.len≤1000000000000) (pt v:Value) (ks:List (List UInt8)) (w:World) (hk:ks.length≤1000000000) (hat:At w w.heap.size t pt) (hv:Hs w 0 w.heap.size v ks) :
 Calls Tryz.prog 34 #[.agg #[pt,.int .i64 0],v] w fun e w'=>e=.returned (.agg #[(t.cut ks 0).val])∧Below w.heap.size w w':=by
 obtain⟨W0,aA⟩:=D9 ((w.alloc (Obj.cells #[pt,.int .i64 0] 31)).alloc (Obj.cells #[.nilIface] 95));have B0:Below w.heap.size w W0:=by rw[aA];exact (U7 _ _).alloc (by simp) _
 have R0:Bk W0 (w.heap.size+1) 95 [.nilIface]:=by rw[aA];simpa using Bk.new (w.alloc (Obj.cells #[pt,.int .i64 0] 31)) 95 [.nilIface]
 have c0:W0.cell? ⟨w.heap.size,0,none⟩=some pt:=by rw[aA];exact ((Bk.new w 31 [pt,.int .i64 0]).alloc _).at_ rfl
 have c1:W0.cell? ⟨w.heap.size,1,none⟩=some (.int .i64 0):=by rw[aA];exact ((Bk.new w 31 [pt,.int .i64 0]).alloc _).at_ rfl
 rw[aA]at c0 c1;have hc:=D3a t 0 P ok hl pt v ks W0 hk ((hat.below B0).more B0.size) ((hv.below B0).more B0.size);obtain⟨q,hq⟩:=D9 (t.cut ks 0);rw[←hq]at hc ⊢;clear hq;go_enter Tryz.func34,Tryz.ntmps34;go_wp2_with fail;rw[←aA];refine hc.mono ?_;rintro e w1 ⟨rfl,h1⟩;have R1:=R0.bl h1;have c2:w1.cell? ⟨w.heap.size+1,0,none⟩=some .nilIface:=R1.at_ rfl;have f2:=R1.frozen 0;have B1:=X4 B0 h1;clear aA;rcases q.form with hfl | ⟨tl',xl',hfl⟩<;>rw[hfl]
 ·go_wp2_with fail;exact bodyPost_ret (C7 rfl _ _ _ _ _ _ rfl (R1.set_ 0 .nilIface) Tryz.underlying95 rfl (by kernel_rfl)) rfl ⟨by rw[hfl];rfl,B1.setCell (by simp) _⟩
 ·go_wp2_with fail;exact bodyPost_ret (C7 rfl _ _ _ _ _ _ rfl (R1.set_ 0 (.iface tl' xl')) Tryz.underlying95 rfl (by kernel_rfl)) rfl ⟨by rw[hfl];rfl,B1.setCell (by simp) _⟩
def Rm (o:Option Pt) (q:Pt) (n:Int):Prop:=match o with | some x=>x=q∧n=0 | none=>q=.e∧n=100
theorem C9y (p:Pt) (k v:List UInt8) (hk:k.length=32) (hv:v.length=32) (P:Nat→Bool) (ok:p.Ok 0 P) (w:World) :
 Calls Tryz.prog 87 #[.agg #[p.val],A8 k,A8 v] w fun e w'=>∃(q:Pt) (n:Int),e=.returned (.tuple #[.agg #[q.val],.int .i64 n])∧Rm (p.put k v 256 0) q n∧Below w.heap.size w w':=by
 obtain⟨W0,aA⟩:=D9 ((((w.alloc (Obj.cells #[p.val] 95)).alloc (Obj.cells (c8 k).toArray 40)).alloc (Obj.cells (c8 v).toArray 40)).alloc (Obj.cells #[.nilIface] 95));have B0:Below w.heap.size w W0:=by rw[aA];exact (((U7 _ _).alloc (by simp) _).alloc (by simp;omega) _).alloc (by simp;omega) _
 have R0:Bk W0 (w.heap.size+1+1+1) 95 [.nilIface]:=by rw[aA];simpa using Bk.new (((w.alloc (Obj.cells #[p.val] 95)).alloc (Obj.cells (c8 k).toArray 40)).alloc (Obj.cells (c8 v).toArray 40)) 95 [.nilIface]
 have c0:W0.cell? ⟨w.heap.size,0,none⟩=some p.val:=by rw[aA];exact (((Bk.new w 95 [p.val]).alloc _).alloc _).alloc _ |>.at_ rfl
 have K0:Bk W0 (w.heap.size+1) 40 (c8 k):=by rw[aA];exact ((by simpa using Bk.new (w.alloc (Obj.cells #[p.val] 95)) 40 (c8 k):Bk _ _ _ _).alloc _).alloc _
 have V0:Bk W0 (w.heap.size+1+1) 40 (c8 v):=by rw[aA];exact (by simpa using Bk.new ((w.alloc (Obj.cells #[p.val] 95)).alloc (Obj.cells (c8 k).toArray 40)) 40 (c8 v):Bk _ _ _ _).alloc _
 have rk:=K0.rows;have rv:=V0.rows;rw[C1,hk]at rk;rw[C1,hv]at rv;rw[aA]at c0 rk rv;have hc:=C8b k v hk hv 256 0 p P W0 rfl ok (fun i hi=>by omega);go_enter Tryz.func87,Tryz.ntmps87;go_wp2_with fail;rw[←aA];refine hc.mono ?_;rintro e w1 ⟨q,n,rfl,hr,h1⟩;have R1:=R0.bl h1;have c2:w1.cell? ⟨w.heap.size+1+1+1,0,none⟩=some .nilIface:=R1.at_ rfl;have f2:=R1.frozen 0;have B1:=X4 B0 h1;clear aA c0 rk rv hc;have hn:n=0∨n=100:=by
  unfold Xm at hr;split at hr
  ·exact .inl hr.2
  ·exact .inr hr
 rcases hn with rfl | rfl
 ·have aB:Rm (p.put k v 256 0) q 0:=by
   unfold Xm at hr;unfold Rm;split at hr
   ·rename_i h;rw[h];exact hr
   ·cases hr
  clear hr;rcases q.form with hfl | ⟨tl',xl',hfl⟩<;>rw[hfl]
  ·go_wp2_with fail;exact bodyPost_ret (C8 rfl (C5.row (R1.set_ 0 .nilIface) rfl _ Tryz.underlying95 rfl (by kernel_rfl)) (C5.tmp rfl)) rfl ⟨q,0,by rw[hfl];rfl,aB,B1.setCell (by simp;omega) _⟩
  ·go_wp2_with fail;exact bodyPost_ret (C8 rfl (C5.row (R1.set_ 0 (.iface tl' xl')) rfl _ Tryz.underlying95 rfl (by kernel_rfl)) (C5.tmp rfl)) rfl ⟨q,0,by rw[hfl];rfl,aB,B1.setCell (by simp;omega) _⟩
 ·have aB:Rm (p.put k v 256 0) .e 100:=by
   unfold Xm at hr;unfold Rm;split at hr
   ·have:=hr.2;cases this
   ·rename_i h;rw[h];exact ⟨rfl,rfl⟩
  clear hr;go_wp2_with fail;exact bodyPost_ret (C8 rfl (C5.row (R1.set_ 0 .nilIface) rfl _ Tryz.underlying95 rfl (by kernel_rfl)) (C5.tmp rfl)) rfl ⟨.e,100,rfl,aB,B1.setCell (by simp;omega) _⟩
section
theorem Vk:(Tryz.prog.info? 34).map (·.size)=some 4:=by kernel_rfl
theorem A5w:(Tryz.prog.info? 31).map (·.size)=some 2:=by kernel_rfl
theorem Ub:Tryz.prog.underlying 34=some (.struct (Q5 Tryz.prog 34)):=by kernel_rfl
theorem B2m:Tryz.prog.underlying 31=some (.struct (Q5 Tryz.prog 31)):=by kernel_rfl
section
variable (w : World) (ρ : Operand → Value) (dst : Option Tmp) (ty : TypeId) (pos : String) (after : Array Edge) (guard : Option (Nat × Bool))
theorem El:RL' 34 4:=LL' Ub Vk
theorem A4w:RL' 31 2:=LL' B2m A5w
end
end
theorem D8w:∀ {t:Tr} {d:Nat} {P:Nat→Bool},Ok d P t→∀(ks:List (List UInt8)) (n:Nat),(t.cut ks n).Wf:=by
 intro t;induction t with
 | e=>intro d P h ks n;unfold Tr.cut Pt.Wf;trivial
 | lf k v=>
  intro d P h ks n;unfold Tr.cut;split
  ·unfold Pt.Wf;exact Tr.root_length _
  ·unfold Pt.Wf;exact ⟨h.1,h.2.1⟩
 | nd l r ihl ihr=>
  intro d P h ks n;unfold Tr.cut;split
  ·unfold Pt.Wf;exact Tr.root_length _
  ·unfold Pt.Wf;exact ⟨ihl h.2.2.1 _ _,ihr h.2.2.2 _ _⟩
theorem Xk:∀ {t:Tr} {d:Nat} {P:Nat→Bool},Ok d P t→d≤256→∀(ks:List (List UInt8)) (n:Nat),(t.cut ks n).bytes.length≤1+t.len*(65+2*(257-d)):=by
 intro t;induction t with
 | e=>intro d P h hd ks n;unfold Tr.cut Pt.bytes;simp
 | lf k v=>
  intro d P h hd ks n;have hr:=Tr.root_length (Tr.lf k v);unfold Tr.cut;split
  ·unfold Pt.bytes;simp[hr,Tr.len];omega
  ·unfold Pt.bytes;simp[h.1,h.2.1,Tr.len];omega
 | nd l r ihl ihr=>
  intro d P h hd ks n;have hr:=Tr.root_length (Tr.nd l r);have h0:=h.1;have h2:=h.2.1;unfold Tr.cut;have el:(Tr.nd l r).len=l.len+r.len:=rfl;rw[el];obtain⟨c,hc⟩:=D9 (65+2*(257-(d+1)));have aA:65+2*(257-d)=c+2:=by omega
  rw[aA];have hm:(l.len+r.len)*(c+2)=l.len*c+r.len*c+2*(l.len+r.len):=by rw[Nat.mul_add,Nat.add_mul];omega
  rw[hm];have aB:65*l.len+65*r.len≤l.len*c+r.len*c:=by
   have a:=Nat.mul_le_mul_left l.len (show 65≤c by omega);have b:=Nat.mul_le_mul_left r.len (show 65≤c by omega);omega
  split
  ·unfold Pt.bytes;simp[hr];omega
  ·have a:=ihl h.2.2.1 (by omega) (ks.filter fun x=>!E3 x n) (n+1);have b:=ihr h.2.2.2 (by omega) (ks.filter fun x=>E3 x n) (n+1);rw[←hc]at a b;unfold Pt.bytes;simp only[List.length_append,List.length_singleton];omega
end Go.Proofs.YtmllnpokbbabhaaGreat
