/- A part of the proof of AuditBatch. -/
import Derived.Lib.BytesEntry
import Derived.Lib.Bytealg
import Derived.Test.YtdfpoofbgjilgaaGreatUbi
set_option linter.unusedVariables false
set_option linter.unusedSimpArgs false
set_option maxRecDepth 100000
set_option maxHeartbeats 40000000
namespace Go.Proofs.YtdfpoofbgjilgaaGreat
open Go Go.RowKit Sh
theorem B5m {P:Program} {l:List Oper} {Q:Exit→Act→World→Prop} {S:World→Prop} {w:World} {done:List Nat} (di dj dm:Tmp) {ls:List Value} {ds:List Deferred}
 (h:O9 P l Q S done (B0g di dj dm ls ds (ls.getD di undef) (ls.getD dj undef) (ls.getD dm undef)) w):O9 P l Q S done ⟨ls.toArray,ds⟩ w:=by
 rw[C2l (di:=di) (dj:=dj) (dm:=dm)];exact h
theorem ApO.outLt {w wr:World} {g gb:Nat} {pv ov bv:Value} {pl:List UInt8} {G G':List G0} {s:RS} (h:ApO w wr g gb pv ov bv pl G G' s):∀k,ov.ownBlock=some k→k<wr.heap.size:=fun k hk=>by
 obtain⟨R,_,ho⟩:=h.out;exact (ho.lt k hk).2
structure ApK (W1 wr : World) (g gg : Nat) (id : List UInt8) (v : Value) (ks : List (List UInt8)) (s : RS) : Prop where
 gr:W1.grownBy wr (some g)
 rd:WRd wr g s
 bx:∃A c,v=.slice A ks.length c∧Bk wr gg 64 (Gw.cells ⟨id,⟨A,ks.length,c⟩,⟨none,0,0⟩⟩)
 own:OwnK wr (gg+1) v ks
 nl:ks=[]→v=.slice none 0 0
theorem ApK.up {W1 wr w':World} {g gg:Nat} {id:List UInt8} {v:Value} {ks:List (List UInt8)} {s:RS} (h:ApK W1 wr g gg id v ks s) (hb:Below wr.heap.size wr w'):ApK W1 w' g gg id v ks s:=by
 obtain⟨A,c,h1,h2⟩:=h.bx;exact ⟨h.gr.trans (E9 hb g),h.rd.up hb,⟨A,c,h1,h2.below hb h2.lt⟩,h.own.below hb (Nat.le_refl _),h.nl⟩
theorem ApK.tk {W1 wr w':World} {g gg:Nat} {id:List UInt8} {v:Value} {ks:List (List UInt8)} {s s':RS} (h:ApK W1 wr g gg id v ks s) (hT:TkR wr w' g s') (hg:g<gg):ApK W1 w' g gg id v ks s':=by
 obtain⟨A,c,h1,h2⟩:=h.bx;refine ⟨h.gr.trans hT.gr,hT.rd,⟨A,c,h1,h2.grown hT.gr (by simp;omega)⟩,⟨h.own.1,World.ownsRow.kept h.own.2 hT.gr ?_⟩,h.nl⟩;cases hv:v.ownBlock with
 | none=>exact .inl rfl
 | some k=>
  refine .inr fun e=>?_;injection e with e;have:=(h.own.2.lt k hv).1;omega
theorem A8w {a b c:World} {g B:Nat} (h:a.grownBy b (some g)) (hb:Below B b c) (hB:a.heap.size≤B):a.grownBy c (some g):=
 ⟨hb.os.trans h.os,hb.tape.trans h.tape,hb.output.trans h.output,Nat.le_trans h.size hb.size,fun k hk hne=>(hb.block k (by omega)).trans (h.block k hk hne)⟩
theorem Gw.set32 {id:List UInt8} (hi:id.length=32) (s s' m:Sv):(Gw.cells ⟨id,s,m⟩).set 32 s'.v=Gw.cells ⟨id,s',m⟩:=by
 unfold Gw.cells;rw[List.set_append_right _ _ (by simp[hi])];simp[hi]
theorem ApK.app {W1 W w8:World} {g gg:Nat} {id:List UInt8} {A A':Option Addr} {c c':Nat} {ks:List (List UInt8)} {k:List UInt8} {s:RS} (h:ApK W1 W g gg id (.slice A ks.length c) ks s) (hT:Bk W gg 64 (Gw.cells ⟨id,⟨A,ks.length,c⟩,⟨none,0,0⟩⟩)) (hi:id.length=32) (hk:k.length=32) (hg:g<gg) (hgg:W1.heap.size≤gg)
 (ho:w8.ownsRow (gg+1) 35 32 (.slice A' (ks.length+1) c') (ks.length+1) (c8 ks.flatten++c8 k)) (hb:Below (gg+1) W w8) :
 ApK W1 (w8.setCell ⟨gg,32,none⟩ (.slice A' (ks.length+1) c')) g gg id (.slice A' (ks.length+1) c') (ks++[k]) s:=by
 have aA:=hT.below hb (Nat.lt_succ_self _);have e:c8 (ks++[k]).flatten=c8 ks.flatten++c8 k:=by simp[c8]
 have hl:(ks++[k]).length=ks.length+1:=by simp
 refine ⟨T5 (A8w h.gr hb (by omega)) hgg 32 [_],(h.rd.below hb (by omega)).putFar (a:=⟨gg,32,none⟩) hg [_],⟨A',c',by rw[hl],?_⟩,⟨fun q hq=>?_,?_⟩,fun e=>by simp at e⟩
 ·rw[hl];have:=aA.set_ 32 (.slice A' (ks.length+1) c');have e2:=Gw.set32 hi ⟨A,ks.length,c⟩ ⟨A',ks.length+1,c'⟩ ⟨none,0,0⟩;unfold Sv.v at e2;rw[e2]at this;exact this
 ·rcases List.mem_append.1 hq with hq | hq
  ·exact h.own.1 q hq
  ·simp at hq;subst hq;exact hk
 ·rw[hl,e];refine World.ownsRow.kept ho (X0 w8 gg 32 [_]) ?_;cases hv:(Value.slice A' (ks.length+1) c').ownBlock with
  | none=>exact .inl rfl
  | some b=>
   refine .inr fun e=>?_;injection e with e;have:=(ho.lt b hv).1;omega
theorem A1m (v:Value) (l:List UInt8) (w:World) (hv:By w 0 w.heap.size v l) (hn:l.length≤1099511627776) :
 Calls Tryz.prog 51 #[v] w fun x w'=>∃p gv e,x=.returned (.tuple #[.agg #[Pt.val p],gv,.int .i64 e])∧D4y w' p gv e (Da l)∧Below w.heap.size w w':=by
 obtain⟨W0,bU⟩:∃x,x=w.alloc (Obj.cells #[.nilIface] 122):=⟨_,rfl⟩;have B0:Below w.heap.size w W0:=by rw[bU];exact (Below.refl _ _).alloc (Nat.le_refl _) _
 have R0:Bk W0 w.heap.size 122 [.nilIface]:=by rw[bU];exact Bk.new w _ [_]
 have cX:By W0 0 W0.heap.size v l:=hv.up B0;obtain⟨F,hF⟩:∃F,F=Lx (Ie (rbS (l,0))) (Jm (rbS (l,0))) []:=⟨_,rfl⟩;have HF:=Lib.hid hF;have HL:Hid (∀q∈F.1,q.2.2.length≤1048576):=Lib.hid (by rw[hF];exact B9n _ _ _ (by simp));have HP:Hid (Da l=if Jh F.2=0 then (match Dd (Xy (l,0)) with
  | .error m=>.error (m:Int)
  | .ok p=>match El F.1 [] with
   | .error e=>.error e
   | .ok gs=>.ok (p,gs)) else .error (Jh F.2)):=Lib.hid (by rw[hF];rfl)
 obtain⟨pa,bX⟩:∃pa,pa=Da l:=⟨_,rfl⟩;rw[←bX]at HP ⊢;clear hF hv bX;go_enter Tryz.func51,Tryz.ntmps51;go_wp2_with fail;rw[←bU];clear bU;refine (A3l v l W0 cX hn).mono ?_;rintro x w1 ⟨g,rfl,hg,cC,b1⟩;obtain⟨w2,bE⟩:∃y,y=w1.alloc (Obj.cells #[.pointer (some ⟨g,0,none⟩)] 102):=⟨_,rfl⟩;have cD:Bk w2 w1.heap.size 102 [.pointer (some ⟨g,0,none⟩)]:=by rw[bE];exact Bk.new w1 _ _
 have b2:Below w1.heap.size w1 w2:=by rw[bE];exact (Below.refl _ _).alloc (Nat.le_refl _) _
 have bF:=cC.up b2;have B2:=C0 b1 b2 b1.size;have eS:g<w1.heap.size:=cC.lt;have cY:w2.cell? ⟨w1.heap.size,0,none⟩=some (.pointer (some ⟨g,0,none⟩)):=cD.at_ rfl;rw[bE]at cY;clear cC b1 b2;go_wp2_with fail;rw[←bE];clear cY bE;generalize w1.heap.size=gb at *;refine (Oi g (l,0) w2 bF).mono ?_;rintro x w3 ⟨pv,rfl,hp,cZ,bY⟩;have I3:ApO W0 w3 g gb pv (.slice none 0 0) (.slice none 0 0) (Xy (l,0)) [] [] (rbS (l,0)):=
  ⟨bY.rd,cD.grown bY.gr (by simp;omega),⟨By.less hp (Nat.zero_le _),cZ⟩,⟨[],trivial,World.ownsRow_nil _ _ _ _⟩,⟨[],trivial,World.ownsRow_nil _ _ _ _⟩,B2.grown bY.gr B2.size (fun k e=>by cases e;exact hg),hg⟩
 have dW:w3.cell? ⟨gb,0,none⟩=some (.pointer (some ⟨g,0,none⟩)):=I3.box.at_ rfl;clear bY hp cZ cD bF B2;go_wp2_with fail;refine (Rk g (rbS (l,0)) w3 I3.rd).mono ?_;rintro x w4 ⟨rfl,dC⟩;have I4:=I3.tk dC;have dD:Ie (rbS (l,0))≤65536:=Kg _ _;obtain⟨m0,cE⟩:∃m,m=Ie (rbS (l,0)):=⟨_,rfl⟩;obtain⟨s0,cF⟩:∃s,s=Jm (rbS (l,0)):=⟨_,rfl⟩;have dF:Hid (F=Lx m0 s0 []):=Lib.hid (by rw[HF.out,cE,cF]);obtain⟨pl,cG⟩:∃pl,pl=Xy (l,0):=⟨_,rfl⟩;rw[←cF,←cG]at I4;rw[←cE]at dD ⊢;have dG:=Lib.hid cG;clear dC cE cF HF I3 dW cG cX;go_wp2_with fail;go_loopw [7,8,10] (fun ov bv nv wr=>∃(m:Nat) (G:List G0) (s:RS),nv=.int .i64 (m:Int)∧ApO W0 wr g gb pv ov bv pl G G s∧Hid (F=Lx m s G)∧G.length+m≤65536) (fun _ _ nv _=>(intOf nv).toNat)
 case atStart=>exact ⟨m0,[],s0,rfl,I4,dF,by simpa using dD⟩
 case round=>
  clear I4 dF;obtain⟨m,G,s,rfl,I,bZ,dX⟩:=hrel;have cb:wr.cell? ⟨gb,0,none⟩=some (.pointer (some ⟨g,0,none⟩)):=I.box.at_ rfl;rcases Nat.eq_zero_or_pos m with hm | hm
  ·subst hm;have bG:F=(G,s):=bZ.out;go_wp2_with fail;refine (Z1 g s wr I.rd).mono ?_;rintro x wz ⟨rfl,hx⟩;rw[hx];clear hx wz;have HX:=HP.out;rw[bG]at HX;simp only at HX;have k2:Bk wr w.heap.size 122 [.nilIface]:=R0.below I.below R0.lt;by_cases hz:Jh s=0
   ·rw[if_pos hz]at HX;have aN:(Jh s==0)=true:=by rw[hz];rfl
    rw[hz];clear hz;go_wp2_with fail;refine (A3p pv pl wr I.part.1).mono ?_;rintro x w8 ⟨pt,pn,rfl,aO,b8⟩;have I8:=I.up b8;have k8:=k2.below b8 k2.lt;rw[←dG.out]at HX;clear b8 I k2;cases aF:Dd pl with
    | error m=>
     rw[aF]at HX aO;obtain⟨rfl,rfl⟩:=aO;simp only at HX;subst HX;have cH:m≠0:=Uz aF;have dY:((m:Int) != 0)=true:=by rw[bne_iff_ne];omega
     have k9:Bk (w8.alloc (Obj.cells #[Value.nilIface] 122)) w.heap.size 122 [.nilIface]:=k8.alloc _;have p0:(w8.alloc (Obj.cells #[Value.nilIface] 122)).cell? ⟨w.heap.size,0,none⟩=some .nilIface:=k9.at_ rfl;have pf:=k9.frozen 0;have pe:Pt.e.val=Value.nilIface:=rfl;rw[pe];clear cH aF k8 aN;go_wp2_with fail;exact bodyPost_ret (J4 rfl (C9.row (k9.set_ 0 .nilIface) rfl _ Tryz.underlying122 rfl (by kernel_rfl)) (C9.tmp rfl) (C9.tmp rfl)) rfl ⟨.e,_,_,rfl,⟨rfl,rfl,rfl⟩,((C0 B0 I8.below B0.size).alloc (Nat.le_trans B0.size I8.below.size) _).setCell (Nat.le_refl _) _⟩
    | ok pq=>
     rw[aF]at HX aO;obtain⟨rfl,rfl⟩:=aO;simp only at HX;obtain⟨Mo,aR⟩:∃x,x=El G []:=⟨_,rfl⟩;rw[←aR]at HX;replace HX:=Lib.hid HX;have HM:=Lib.hid aR;have HG:Hid (∀q∈G,q.2.2.length≤1048576):=Lib.hid (by have:=HL.out;rw[bG]at this;exact this);clear aR;obtain⟨wb,aP⟩:∃x,x=w8.alloc (Obj.cells #[pt.val] 122):=⟨_,rfl⟩;have bb:Below w8.heap.size w8 wb:=by rw[aP];exact (Below.refl _ _).alloc (Nat.le_refl _) _
     have kp:Bk wb w8.heap.size 122 [pt.val]:=by rw[aP];exact Bk.new w8 _ _
     have M:=MoI.start (I8.up bb) kp;obtain⟨_,_,bH⟩:=I8.out;obtain⟨Ao,co,rfl,-,-⟩:=O7 bH;obtain⟨_,_,bI⟩:=I8.bat;obtain⟨Ab,cb8,rfl,-,-⟩:=O7 bI;clear aF k8 aN bb kp bH bI I8;go_wp2_with fail;rw[←aP];clear aP;generalize w8.heap.size=gp at *;go_loopw [78] (fun jv wr=>∃(gs:List Gr) (G2:List G0),jv=.int .i64 (gs.length:Int)∧MoI W0 wr g gp pt (.slice Ao G.length co) (.slice Ab G.length cb8) G gs G2∧Hid (Mo=El G2 gs)) (fun jv _=>G.length-(intOf jv).toNat)
     case atStart=>exact ⟨[],G,rfl,M,HM⟩
     case round=>
      clear M HM;obtain⟨gs,G2,rfl,M,HM⟩:=hrel;have k2:=R0.below M.below R0.lt;cases G2 with
      | nil=>
       have cI:decide (gs.length<G.length)=false:=decide_eq_false (by have:=M.len;simp at this;omega);have p0:wr.cell? ⟨w.heap.size,0,none⟩=some .nilIface:=k2.at_ rfl;have pf:=k2.frozen 0;have c0:wr.cell? ⟨gp,0,none⟩=some pt.val:=M.part.at_ rfl;have aS:Hid (pa=.ok (pt,gs)):=Lib.hid (by rw[HX.out,HM.out];rfl);have MF:=M.fin;go_wp2_with fail;exact bodyPost_ret (J4 rfl (C9.row (k2.set_ 0 pt.val) rfl _ Tryz.underlying122 rfl (by kernel_rfl)) (C9.tmp rfl) (C9.tmp rfl)) rfl ⟨pt,_,_,rfl,by rw[aS.out];exact ⟨rfl,rfl,MF.grown (X0 wr w.heap.size 0 [_]) (Fw k2) (by decide) (by decide) (by decide)⟩,(C0 B0 M.below B0.size).setCell (Nat.le_refl _) _⟩
      | cons q G3=>
       have cI:decide (gs.length<G.length)=true:=decide_eq_true (by have:=M.len;simp at this;omega);obtain⟨bq,cq,Aq,c',eq,cJ,bJ⟩:=M.next;obtain⟨br,cr,er,-,-⟩:=M.row;injection eq with eq1 eq2 eq3;injection er with er1 er2 er3;subst eq1 er1 eq3 er3;have cK:q.2.2.length≤1099511627776:=by obtain⟨G1,h1,-⟩:=M.split;have:=HG.out q (by rw[h1];simp);omega
       have cA:gs.length<G.length:=by have:=M.len;simp at this;omega
       go_wp2_with fail;refine (Zd _ q.2.2 wr bJ cK).mono ?_;rintro x w9 ⟨u,rfl,hu,b9⟩;have M9:=M.up b9;have k9:=k2.below b9 k2.lt;obtain⟨us,en,bK⟩:∃us en,Ew q.2.2=(us,en):=⟨_,_,rfl⟩;have aC:=HM.out;unfold El at aC;rw[bK]at hu aC ⊢;simp only at hu aC ⊢;obtain⟨Au,cu,rfl,-,-⟩:=O7 hu.2;obtain⟨dZ,eA,cL,eB,eC⟩:=M9.row;injection cL with er1' er2' er3';injection er1' with er1';injection er1' with er1';subst er1' er3';have MF:=M9.more rfl hu;clear bK M9 hu HM M k2 b9 bJ cJ;by_cases hen:en=0
       ·rw[if_pos hen]at aC;subst hen;have cM:=Lib.hid aC;clear aC;go_wp2_with fail;go_roundw;case rel=>exact ⟨gs++[(q.1,q.2.1,us)],G3,by simp,MF,cM⟩
        case measure=>simp[intOf];omega
       ·rw[if_neg hen]at aC;have eD:(en != 0)=true:=by rw[bne_iff_ne];exact hen
        have aS:pa=.error en:=by rw[HX.out,aC]
        clear hen aC HX HP;subst aS;have aT:Bk (w9.setCell ⟨br,gs.length*34+33,none⟩ (.slice Au us.length cu)) w.heap.size 122 [.nilIface]:=R0.below MF.below R0.lt;have p0:=aT.at_ (i:=0) rfl;have pf:=aT.frozen 0;go_wp2_with fail;exact bodyPost_ret (J4 rfl (C9.row (aT.set_ 0 .nilIface) rfl _ Tryz.underlying122 rfl (by kernel_rfl)) (C9.tmp rfl) (C9.tmp rfl)) rfl ⟨.e,_,_,rfl,⟨rfl,rfl,rfl⟩,(C0 B0 MF.below B0.size).setCell (Nat.le_refl _) _⟩
   ·rw[if_neg hz]at HX;have aN:(Jh s==0)=false:=beq_eq_false_iff_ne.2 hz;clear hz;subst HX;have eE:(Jh s != 0)=true:=by rw[bne,aN];rfl
    have p0:wr.cell? ⟨w.heap.size,0,none⟩=some .nilIface:=k2.at_ rfl;have pf:=k2.frozen 0;go_wp2_with fail;exact bodyPost_ret (J4 rfl (C9.row (k2.set_ 0 .nilIface) rfl _ Tryz.underlying122 rfl (by kernel_rfl)) (C9.tmp rfl) (C9.tmp rfl)) rfl ⟨.e,_,_,rfl,⟨rfl,rfl,rfl⟩,(C0 B0 I.below B0.size).setCell (Nat.le_refl _) _⟩
  ·obtain⟨m',rfl⟩:∃m',m=m'+1:=⟨m-1,by omega⟩;have hd:decide ((0:Int)<((m'+1:Nat):Int))=true:=decide_eq_true (by omega);have eT:decide (0<m'+1)=true:=decide_eq_true (by omega);go_wp2_with fail;refine (B3l gb g s wr I.box I.rd).mono ?_;rintro x wx ⟨rfl,hx⟩;rw[hx];clear hx wx;cases hw:Hk s with
   | false=>
    have bG:F=(G,s):=by have:=bZ.out;unfold Lx at this;rw[if_neg (by rw[hw];decide)]at this;exact this
    go_wp2_with fail;refine (Z1 g s wr I.rd).mono ?_;rintro x wz ⟨rfl,hx⟩;rw[hx];clear hx wz;have HX:=HP.out;rw[bG]at HX;simp only at HX;have k2:Bk wr w.heap.size 122 [.nilIface]:=R0.below I.below R0.lt;by_cases hz:Jh s=0
    ·rw[if_pos hz]at HX;have aN:(Jh s==0)=true:=by rw[hz];rfl
     rw[hz];clear hz;go_wp2_with fail;refine (A3p pv pl wr I.part.1).mono ?_;rintro x w8 ⟨pt,pn,rfl,aO,b8⟩;have I8:=I.up b8;have k8:=k2.below b8 k2.lt;rw[←dG.out]at HX;clear b8 I k2;cases aF:Dd pl with
     | error m=>
      rw[aF]at HX aO;obtain⟨rfl,rfl⟩:=aO;simp only at HX;subst HX;have cH:m≠0:=Uz aF;have dY:((m:Int) != 0)=true:=by rw[bne_iff_ne];omega
      have k9:Bk (w8.alloc (Obj.cells #[Value.nilIface] 122)) w.heap.size 122 [.nilIface]:=k8.alloc _;have p0:(w8.alloc (Obj.cells #[Value.nilIface] 122)).cell? ⟨w.heap.size,0,none⟩=some .nilIface:=k9.at_ rfl;have pf:=k9.frozen 0;have pe:Pt.e.val=Value.nilIface:=rfl;rw[pe];clear cH aF k8 aN;go_wp2_with fail;exact bodyPost_ret (J4 rfl (C9.row (k9.set_ 0 .nilIface) rfl _ Tryz.underlying122 rfl (by kernel_rfl)) (C9.tmp rfl) (C9.tmp rfl)) rfl ⟨.e,_,_,rfl,⟨rfl,rfl,rfl⟩,((C0 B0 I8.below B0.size).alloc (Nat.le_trans B0.size I8.below.size) _).setCell (Nat.le_refl _) _⟩
     | ok pq=>
      rw[aF]at HX aO;obtain⟨rfl,rfl⟩:=aO;simp only at HX;obtain⟨Mo,aR⟩:∃x,x=El G []:=⟨_,rfl⟩;rw[←aR]at HX;replace HX:=Lib.hid HX;have HM:=Lib.hid aR;have HG:Hid (∀q∈G,q.2.2.length≤1048576):=Lib.hid (by have:=HL.out;rw[bG]at this;exact this);clear aR;obtain⟨wb,aP⟩:∃x,x=w8.alloc (Obj.cells #[pt.val] 122):=⟨_,rfl⟩;have bb:Below w8.heap.size w8 wb:=by rw[aP];exact (Below.refl _ _).alloc (Nat.le_refl _) _
      have kp:Bk wb w8.heap.size 122 [pt.val]:=by rw[aP];exact Bk.new w8 _ _
      have M:=MoI.start (I8.up bb) kp;obtain⟨_,_,bH⟩:=I8.out;obtain⟨Ao,co,rfl,-,-⟩:=O7 bH;obtain⟨_,_,bI⟩:=I8.bat;obtain⟨Ab,cb8,rfl,-,-⟩:=O7 bI;clear aF k8 aN bb kp bH bI I8;go_wp2_with fail;rw[←aP];clear aP;generalize w8.heap.size=gp at *;go_loopw [78] (fun jv wr=>∃(gs:List Gr) (G2:List G0),jv=.int .i64 (gs.length:Int)∧MoI W0 wr g gp pt (.slice Ao G.length co) (.slice Ab G.length cb8) G gs G2∧Hid (Mo=El G2 gs)) (fun jv _=>G.length-(intOf jv).toNat)
      case atStart=>exact ⟨[],G,rfl,M,HM⟩
      case round=>
       clear M HM;obtain⟨gs,G2,rfl,M,HM⟩:=hrel;have k2:=R0.below M.below R0.lt;cases G2 with
       | nil=>
        have cI:decide (gs.length<G.length)=false:=decide_eq_false (by have:=M.len;simp at this;omega);have p0:wr.cell? ⟨w.heap.size,0,none⟩=some .nilIface:=k2.at_ rfl;have pf:=k2.frozen 0;have c0:wr.cell? ⟨gp,0,none⟩=some pt.val:=M.part.at_ rfl;have aS:Hid (pa=.ok (pt,gs)):=Lib.hid (by rw[HX.out,HM.out];rfl);have MF:=M.fin;go_wp2_with fail;exact bodyPost_ret (J4 rfl (C9.row (k2.set_ 0 pt.val) rfl _ Tryz.underlying122 rfl (by kernel_rfl)) (C9.tmp rfl) (C9.tmp rfl)) rfl ⟨pt,_,_,rfl,by rw[aS.out];exact ⟨rfl,rfl,MF.grown (X0 wr w.heap.size 0 [_]) (Fw k2) (by decide) (by decide) (by decide)⟩,(C0 B0 M.below B0.size).setCell (Nat.le_refl _) _⟩
       | cons q G3=>
        have cI:decide (gs.length<G.length)=true:=decide_eq_true (by have:=M.len;simp at this;omega);obtain⟨bq,cq,Aq,c',eq,cJ,bJ⟩:=M.next;obtain⟨br,cr,er,-,-⟩:=M.row;injection eq with eq1 eq2 eq3;injection er with er1 er2 er3;subst eq1 er1 eq3 er3;have cK:q.2.2.length≤1099511627776:=by obtain⟨G1,h1,-⟩:=M.split;have:=HG.out q (by rw[h1];simp);omega
        have cA:gs.length<G.length:=by have:=M.len;simp at this;omega
        go_wp2_with fail;refine (Zd _ q.2.2 wr bJ cK).mono ?_;rintro x w9 ⟨u,rfl,hu,b9⟩;have M9:=M.up b9;have k9:=k2.below b9 k2.lt;obtain⟨us,en,bK⟩:∃us en,Ew q.2.2=(us,en):=⟨_,_,rfl⟩;have aC:=HM.out;unfold El at aC;rw[bK]at hu aC ⊢;simp only at hu aC ⊢;obtain⟨Au,cu,rfl,-,-⟩:=O7 hu.2;obtain⟨dZ,eA,cL,eB,eC⟩:=M9.row;injection cL with er1' er2' er3';injection er1' with er1';injection er1' with er1';subst er1' er3';have MF:=M9.more rfl hu;clear bK M9 hu HM M k2 b9 bJ cJ;by_cases hen:en=0
        ·rw[if_pos hen]at aC;subst hen;have cM:=Lib.hid aC;clear aC;go_wp2_with fail;go_roundw;case rel=>exact ⟨gs++[(q.1,q.2.1,us)],G3,by simp,MF,cM⟩
         case measure=>simp[intOf];omega
        ·rw[if_neg hen]at aC;have eD:(en != 0)=true:=by rw[bne_iff_ne];exact hen
         have aS:pa=.error en:=by rw[HX.out,aC]
         clear hen aC HX HP;subst aS;have aT:Bk (w9.setCell ⟨br,gs.length*34+33,none⟩ (.slice Au us.length cu)) w.heap.size 122 [.nilIface]:=R0.below MF.below R0.lt;have p0:=aT.at_ (i:=0) rfl;have pf:=aT.frozen 0;go_wp2_with fail;exact bodyPost_ret (J4 rfl (C9.row (aT.set_ 0 .nilIface) rfl _ Tryz.underlying122 rfl (by kernel_rfl)) (C9.tmp rfl) (C9.tmp rfl)) rfl ⟨.e,_,_,rfl,⟨rfl,rfl,rfl⟩,(C0 B0 MF.below B0.size).setCell (Nat.le_refl _) _⟩
    ·rw[if_neg hz]at HX;have aN:(Jh s==0)=false:=beq_eq_false_iff_ne.2 hz;clear hz;subst HX;have eE:(Jh s != 0)=true:=by rw[bne,aN];rfl
     have p0:wr.cell? ⟨w.heap.size,0,none⟩=some .nilIface:=k2.at_ rfl;have pf:=k2.frozen 0;go_wp2_with fail;exact bodyPost_ret (J4 rfl (C9.row (k2.set_ 0 .nilIface) rfl _ Tryz.underlying122 rfl (by kernel_rfl)) (C9.tmp rfl) (C9.tmp rfl)) rfl ⟨.e,_,_,rfl,⟨rfl,rfl,rfl⟩,(C0 B0 I.below B0.size).setCell (Nat.le_refl _) _⟩
   | true=>
    have dI:Hid (F=Lx m' (rbS (Mp (Ie (Z9 32 s)) (Jm (Z9 32 s)) []).2) (G++[(Pz s,(Mp (Ie (Z9 32 s)) (Jm (Z9 32 s)) []).1,Xy (Mp (Ie (Z9 32 s)) (Jm (Z9 32 s)) []).2)])):=Lib.hid (by
     have:=bZ.out;unfold Lx at this;rw[if_pos hw]at this;exact this)
    clear bZ;go_wp2_with fail;refine (Pg g s wr I.rd).mono ?_;rintro x w5 ⟨rfl,eF⟩;have I5:=I.tk eF;have aH:=Eu s;have cN:E4 (w5.alloc (Obj.cells Uj.cells.toArray 64)) ⟨w5.heap.size,0,none⟩ 34=true:=(Bk.new w5 64 Uj.cells).can (by rw[Gw.len (r:=Uj) (by simp[Uj])];omega);have cA:(Gw.cells ⟨Pz s,⟨none,0,0⟩,⟨none,0,0⟩⟩).length=34:=Gw.len aH;obtain⟨w6,bL⟩:∃y,y=C5 (w5.alloc (Obj.cells Uj.cells.toArray 64)) ⟨w5.heap.size,0,none⟩ (Gw.cells ⟨Pz s,⟨none,0,0⟩,⟨none,0,0⟩⟩):=⟨_,rfl⟩;have dJ:Bk w6 w5.heap.size 64 (Gw.cells ⟨Pz s,⟨none,0,0⟩,⟨none,0,0⟩⟩):=by rw[bL];exact (Bk.new w5 64 Uj.cells).puts (by rw[cA,Gw.len (r:=Uj) (by simp[Uj])])
    have b6:Below w5.heap.size w5 w6:=by rw[bL];exact C1 ((Below.refl _ _).alloc (Nat.le_refl _) _) (Nat.le_refl _) _
    have K6:ApK w5 w6 g w5.heap.size (Pz s) (.slice none 0 0) [] (Z9 32 s):=⟨E9 b6 g,I5.rd.up b6,⟨none,0,rfl,dJ⟩,OwnK.nil _ _,fun _=>rfl⟩;have dK:w6.cell? ⟨gb,0,none⟩=some (.pointer (some ⟨g,0,none⟩)):=(I5.box.below b6 I5.box.lt).at_ rfl;have cO:g<w5.heap.size:=I5.rd.lt;have dL:=I5.outLt;have eU:gb<w5.heap.size:=I5.box.lt;rw[bL]at dK;go_wp2_with fail;rw[←bL];clear bL cN dK dJ b6;refine (Rk g (Z9 32 s) w6 K6.rd).mono ?_;rintro x w7 ⟨rfl,dM⟩;have K7:=K6.tk dM cO;have dO:Ie (Z9 32 s)≤65536:=Kg _ _;obtain⟨k0,bC⟩:∃k,k=Ie (Z9 32 s):=⟨_,rfl⟩;obtain⟨q0,cP⟩:∃q,q=Jm (Z9 32 s):=⟨_,rfl⟩;obtain⟨H,hH⟩:∃H,H=Mp k0 q0 []:=⟨_,rfl⟩;have aI:Hid (F=Lx m' (rbS H.2) (G++[(Pz s,H.1,Xy H.2)])):=Lib.hid (by rw[dI.out,hH,bC,cP]);have HH:=Lib.hid hH;obtain⟨id,hid⟩:∃i,i=Pz s:=⟨_,rfl⟩;rw[←cP]at K7;rw[←bC]at dO ⊢;rw[←hid]at aI aH cA K7 ⊢;clear dM K6 bC cP dI hH hid;go_wp2_with fail;go_loopw [12] (fun nv wk=>∃(k:Nat) (ks:List (List UInt8)) (q:RS) (kv:Value),nv=.int .i64 (k:Int)∧ApK w5 wk g w5.heap.size id kv ks q∧Hid (H=Mp k q ks)∧ks.length+k≤65536) (fun nv _=>(intOf nv).toNat)
    case atStart=>exact ⟨k0,[],q0,_,rfl,K7,HH,by simpa using dO⟩
    case round=>
     clear K7 HH;obtain⟨k,ks,q,kv,rfl,K,HK,eV⟩:=hrel;have bD:Bk wr gb 102 [.pointer (some ⟨g,0,none⟩)]:=(I5.tk ⟨K.rd,K.gr⟩).box;rcases Nat.eq_zero_or_pos k with bC | bC
     ·subst bC;have cQ:H=(ks,q):=HK.out;have cR:wr.cell? ⟨gb,0,none⟩=some (.pointer (some ⟨g,0,none⟩)):=bD.at_ rfl;go_wp2_with fail;have S0:Below wr.heap.size wr wr.drew:=(Below.refl _ _).drew;have K1:=K.up S0;obtain⟨A,c,rfl,aG⟩:=K1.bx;have Id:=I5.tk ⟨K1.rd,K1.gr⟩;have aU:Hid (F=Lx m' (rbS q) (G++[(id,ks,Xy q)])):=Lib.hid (by have:=aI.out;rw[cQ]at this;exact this);have bM:HsK wr.drew (.slice A ks.length c) ks:=⟨K1.own.hs.less (Nat.zero_le _),Ae K1.own.2,K1.nl⟩;have bN:C9g wr.drew ⟨id,⟨A,ks.length,c⟩,⟨none,0,0⟩⟩ (id,ks,Xy q):=⟨rfl,aH,bM,rfl⟩;have bO:(Gw.cells ⟨id,⟨A,ks.length,c⟩,⟨none,0,0⟩⟩).length=34:=Gw.len aH;have cS:Uj.V.cells.size=34:=by simp[Gw.V,Uj,Gw.cells,Value.cells]
      obtain⟨R,hR,ho⟩:=Id.out;have bP:g+1≤wr.drew.heap.size:=Id.rd.lt;clear S0 K HK aI bM K1 cR;refine D9 (fun X=>Bk X gb 102 [.pointer (some ⟨g,0,none⟩)]∧Bk X w5.heap.size 64 (Gw.cells ⟨id,⟨A,ks.length,c⟩,⟨none,0,0⟩⟩)) (by kernel_rfl) ?_;refine C4 (A:=?eW) [0,1,4,5] (by kernel_rfl) (by kernel_rfl) rfl (by kernel_rfl) (by kernel_rfl) ⟨Id.box,aG⟩ (h:=fun X hX=>?eG) (hr:=?eX);case eG=>
       have f1:X.cell? ⟨gb,0,none⟩=some (.pointer (some ⟨g,0,none⟩)):=hX.1.at_ rfl;have f2:C6 X ⟨w5.heap.size,0,none⟩ 34=some (Gw.cells ⟨id,⟨A,ks.length,c⟩,⟨none,0,0⟩⟩):=by have:=hX.2.rows;rwa [bO]at this
       simp only[pick,List.getElem?_cons_zero,List.getElem?_cons_succ];repeat (go_big_quiet_step (fail))
       refine wpQuiet_nil ?_;rfl
      refine C2 2 (by kernel_rfl) (by rfl) (by rfl) (fun Q' hQ'=>?_);dsimp only[D8];have aA:=Lib.hid hQ';clear hQ';go_wp2_with fail;refine aA.out _ _ ⟨Id.box.alloc _,aG.alloc _⟩ ?_;clear aA;refine C2 3 (by kernel_rfl) (by rfl) (by rfl) (fun Q' hQ'=>?_);dsimp only[D8];have aA:=Lib.hid hQ';clear hQ';go_wp2_with (at_builtin;refine Ru 57 64 Uj.V 34 80 Tryz.underlying57 C4c cS (by decide) (by decide) rfl _ _ rfl rfl ho (Gw.cells ⟨id,⟨A,ks.length,c⟩,⟨none,0,0⟩⟩) bO (Gw.one _) _ rfl rfl rfl (by omega) bP ?_;intro A8 eH w8 q1 q2 aD bQ aV aW);have I8:=Id.appOut hR ho bN aD bQ aV;have aX:=aG.grown aV (fun e=>Nat.lt_irrefl _ (dL _ e.symm));clear q1 q2 aD bQ aV aW hR ho bN Id aG;refine aA.out _ _ ⟨I8.box,aX⟩ ?_;clear aA;refine C2 6 (by kernel_rfl) (by rfl) (by rfl) (fun Q' hQ'=>?_);dsimp only[D8];have aA:=Lib.hid hQ';clear hQ';go_wp2_with fail;refine (Oi g q w8 I8.rd).mono ?_;rintro x w9 ⟨uv,rfl,hu,bR,aY⟩;have I9:=I8.tk aY;have aJ:=aX.grown aY.gr (by simp;omega);have bS:ByT w9 uv (Xy q):=⟨By.less hu (Nat.zero_le _),bR⟩;obtain⟨Au,cu,rfl,-,-,-⟩:=hu.open_;obtain⟨vs,hV,aQ⟩:=I9.bat;have aZ:g+1≤w9.heap.size:=I9.rd.lt;clear aY I8 aX hu bR;go_wp2_with fail;refine aA.out _ _ ⟨I9.box,aJ⟩ ?_;clear aA;refine C2 7 (by kernel_rfl) (by rfl) (by rfl) (fun Q' hQ'=>?_);dsimp only[D8];have aA:=Lib.hid hQ';clear hQ';go_wp2_with fail;refine aA.out _ _ ⟨I9.box.alloc _,aJ.alloc _⟩ ?_;clear aA
      refine C2 8 (by kernel_rfl) (by rfl) (by rfl) (fun Q' hQ'=>?_);dsimp only[D8];have aA:=Lib.hid hQ';clear hQ';go_wp2_with (at_builtin;refine Ru 74 29 (.slice none 0 0) 1 24 Tryz.underlying74 B7e rfl (by decide) (by decide) rfl _ _ rfl rfl aQ [.slice Au (Xy q).length cu] rfl (by intro u hu;simp at hu;subst hu;rfl) _ rfl rfl rfl (by omega) aZ ?_;intro eI eJ eK q1 q2 aB aK aE aL);have bA:=I9.appBat hV aQ (q:=(id,ks,Xy q)) bS aB aK aE;have aM:=aJ.grown aE ((Ae aQ).ne (Fw aJ) (by decide));clear q1 q2 aB aK aE aL hV aQ bS I9 aJ;refine aA.out _ _ ⟨bA.box,aM⟩ ?_;clear aA;refine C4 (A:=?eY) [9,10] (by kernel_rfl) (by kernel_rfl) rfl (by kernel_rfl) (by kernel_rfl) ⟨bA.box,aM⟩ (h:=fun X hX=>?bX) (hr:=?eZ);case bX=>
       simp only[List.append_eq,List.nil_append,List.cons_append,pick,List.getElem?_cons_zero,List.getElem?_cons_succ];repeat (go_big_quiet_step (fail))
       refine wpQuiet_nil ?_;rfl
      refine E5 (by kernel_rfl) ?_;go_wp2_with fail;go_roundw;case rel=>exact ⟨m',G++[(id,ks,Xy q)],rbS q,by go_num,bA,aU,by simp;omega⟩
      case measure=>simp[intOf]
     ·obtain⟨k',rfl⟩:∃k',k=k'+1:=⟨k-1,by omega⟩;have fB:decide ((0:Int)<((k'+1:Nat):Int))=true:=decide_eq_true (by omega);have fC:decide (0<k'+1)=true:=decide_eq_true (by omega);go_wp2_with fail;refine (B3l gb g q wr bD K.rd).mono ?_;rintro x wx ⟨rfl,hx⟩;rw[hx];clear hx wx;cases hwq:Hk q with
      | false=>
       have cQ:H=(ks,q):=by have:=HK.out;unfold Mp at this;rw[if_neg (by rw[hwq];decide)]at this;exact this
       have cR:wr.cell? ⟨gb,0,none⟩=some (.pointer (some ⟨g,0,none⟩)):=bD.at_ rfl;go_wp2_with fail;have S0:Below wr.heap.size wr wr.drew:=(Below.refl _ _).drew;have K1:=K.up S0;obtain⟨A,c,rfl,aG⟩:=K1.bx;have Id:=I5.tk ⟨K1.rd,K1.gr⟩;have aU:Hid (F=Lx m' (rbS q) (G++[(id,ks,Xy q)])):=Lib.hid (by have:=aI.out;rw[cQ]at this;exact this);have bM:HsK wr.drew (.slice A ks.length c) ks:=⟨K1.own.hs.less (Nat.zero_le _),Ae K1.own.2,K1.nl⟩;have bN:C9g wr.drew ⟨id,⟨A,ks.length,c⟩,⟨none,0,0⟩⟩ (id,ks,Xy q):=⟨rfl,aH,bM,rfl⟩;have bO:(Gw.cells ⟨id,⟨A,ks.length,c⟩,⟨none,0,0⟩⟩).length=34:=Gw.len aH;have cS:Uj.V.cells.size=34:=by simp[Gw.V,Uj,Gw.cells,Value.cells]
       obtain⟨R,hR,ho⟩:=Id.out;have bP:g+1≤wr.drew.heap.size:=Id.rd.lt;clear S0 K HK aI bM K1 cR;refine D9 (fun X=>Bk X gb 102 [.pointer (some ⟨g,0,none⟩)]∧Bk X w5.heap.size 64 (Gw.cells ⟨id,⟨A,ks.length,c⟩,⟨none,0,0⟩⟩)) (by kernel_rfl) ?_;refine C4 (A:=?fD) [0,1,4,5] (by kernel_rfl) (by kernel_rfl) rfl (by kernel_rfl) (by kernel_rfl) ⟨Id.box,aG⟩ (h:=fun X hX=>?eL) (hr:=?fE);case eL=>
        have f1:X.cell? ⟨gb,0,none⟩=some (.pointer (some ⟨g,0,none⟩)):=hX.1.at_ rfl;have f2:C6 X ⟨w5.heap.size,0,none⟩ 34=some (Gw.cells ⟨id,⟨A,ks.length,c⟩,⟨none,0,0⟩⟩):=by have:=hX.2.rows;rwa [bO]at this
        simp only[pick,List.getElem?_cons_zero,List.getElem?_cons_succ];repeat (go_big_quiet_step (fail))
        refine wpQuiet_nil ?_;rfl
       refine C2 2 (by kernel_rfl) (by rfl) (by rfl) (fun Q' hQ'=>?_);dsimp only[D8];have aA:=Lib.hid hQ';clear hQ';go_wp2_with fail;refine aA.out _ _ ⟨Id.box.alloc _,aG.alloc _⟩ ?_;clear aA;refine C2 3 (by kernel_rfl) (by rfl) (by rfl) (fun Q' hQ'=>?_);dsimp only[D8];have aA:=Lib.hid hQ';clear hQ';go_wp2_with (at_builtin;refine Ru 57 64 Uj.V 34 80 Tryz.underlying57 C4c cS (by decide) (by decide) rfl _ _ rfl rfl ho (Gw.cells ⟨id,⟨A,ks.length,c⟩,⟨none,0,0⟩⟩) bO (Gw.one _) _ rfl rfl rfl (by omega) bP ?_;intro A8 eH w8 q1 q2 aD bQ aV aW);have I8:=Id.appOut hR ho bN aD bQ aV;have aX:=aG.grown aV (fun e=>Nat.lt_irrefl _ (dL _ e.symm));clear q1 q2 aD bQ aV aW hR ho bN Id aG;refine aA.out _ _ ⟨I8.box,aX⟩ ?_;clear aA;refine C2 6 (by kernel_rfl) (by rfl) (by rfl) (fun Q' hQ'=>?_);dsimp only[D8];have aA:=Lib.hid hQ';clear hQ';go_wp2_with fail;refine (Oi g q w8 I8.rd).mono ?_;rintro x w9 ⟨uv,rfl,hu,bR,aY⟩;have I9:=I8.tk aY;have aJ:=aX.grown aY.gr (by simp;omega);have bS:ByT w9 uv (Xy q):=⟨By.less hu (Nat.zero_le _),bR⟩;obtain⟨Au,cu,rfl,-,-,-⟩:=hu.open_;obtain⟨vs,hV,aQ⟩:=I9.bat;have aZ:g+1≤w9.heap.size:=I9.rd.lt;clear aY I8 aX hu bR;go_wp2_with fail;refine aA.out _ _ ⟨I9.box,aJ⟩ ?_;clear aA;refine C2 7 (by kernel_rfl) (by rfl) (by rfl) (fun Q' hQ'=>?_);dsimp only[D8];have aA:=Lib.hid hQ';clear hQ';go_wp2_with fail;refine aA.out _ _ ⟨I9.box.alloc _,aJ.alloc _⟩ ?_;clear aA
       refine C2 8 (by kernel_rfl) (by rfl) (by rfl) (fun Q' hQ'=>?_);dsimp only[D8];have aA:=Lib.hid hQ';clear hQ';go_wp2_with (at_builtin;refine Ru 74 29 (.slice none 0 0) 1 24 Tryz.underlying74 B7e rfl (by decide) (by decide) rfl _ _ rfl rfl aQ [.slice Au (Xy q).length cu] rfl (by intro u hu;simp at hu;subst hu;rfl) _ rfl rfl rfl (by omega) aZ ?_;intro eI eJ eK q1 q2 aB aK aE aL);have bA:=I9.appBat hV aQ (q:=(id,ks,Xy q)) bS aB aK aE;have aM:=aJ.grown aE ((Ae aQ).ne (Fw aJ) (by decide));clear q1 q2 aB aK aE aL hV aQ bS I9 aJ;refine aA.out _ _ ⟨bA.box,aM⟩ ?_;clear aA;refine C4 (A:=?fF) [9,10] (by kernel_rfl) (by kernel_rfl) rfl (by kernel_rfl) (by kernel_rfl) ⟨bA.box,aM⟩ (h:=fun X hX=>?aF) (hr:=?fG);case aF=>
        simp only[List.append_eq,List.nil_append,List.cons_append,pick,List.getElem?_cons_zero,List.getElem?_cons_succ];repeat (go_big_quiet_step (fail))
        refine wpQuiet_nil ?_;rfl
       refine E5 (by kernel_rfl) ?_;go_wp2_with fail;go_roundw;case rel=>exact ⟨m',G++[(id,ks,Xy q)],rbS q,by go_num,bA,aU,by simp;omega⟩
       case measure=>simp[intOf]
      | true=>
       have eM:Hid (H=Mp k' (Z9 32 q) (ks++[Pz q])):=Lib.hid (by
        have:=HK.out;unfold Mp at this;rw[if_pos hwq]at this;exact this)
       obtain⟨A,c,rfl,kg⟩:=K.bx;have dQ:=Eu q;clear HK;go_wp2_with fail;have S0:Below wr.heap.size wr wr.drew:=(Below.refl _ _).drew;have K1:=K.up S0;have aG:=kg.below S0 kg.lt;have bB:=bD.below S0 bD.lt;have fH:w5.heap.size<wr.heap.size:=kg.lt;clear K S0 kg bD;refine D9 (fun X=>Bk X gb 102 [.pointer (some ⟨g,0,none⟩)]) (by kernel_rfl) ?_;refine C4 (A:=?eN) [0,2] (by kernel_rfl) (by kernel_rfl) rfl (by kernel_rfl) (by kernel_rfl) bB (h:=fun X hX=>?cT) (hr:=?eO);case cT=>
        have f1:X.cell? ⟨gb,0,none⟩=some (.pointer (some ⟨g,0,none⟩)):=hX.at_ rfl;simp only[pick,List.getElem?_cons_zero,List.getElem?_cons_succ];repeat (go_big_quiet_step (fail))
        refine wpQuiet_nil ?_;rfl
       refine B5m 46 48 49 ?_;refine C2u 1 3 4 (B0g 46 48 49 _ _) (ri:=.slice A ks.length c)
        (fun W=>Bk W w5.heap.size 64 (Gw.cells ⟨id,⟨A,ks.length,c⟩,⟨none,0,0⟩⟩))
        (fun y W=>y=A8 (Pz q)∧ApK w5 W g w5.heap.size id (.slice A ks.length c) ks (Z9 32 q))
        (fun z W=>∃p,z=.slice (some ⟨p,0,none⟩) 1 1∧Bk W p 35 (c8 (Pz q))∧ApK w5 W g w5.heap.size id (.slice A ks.length c) ks (Z9 32 q))
        (by kernel_rfl) (by kernel_rfl) (by kernel_rfl) (by kernel_rfl) (by kernel_rfl) (by kernel_rfl) (by kernel_rfl) (by kernel_rfl) (by kernel_rfl) rfl rfl rfl (fun _ _ _=>rfl) (fun _ _ _=>rfl) (fun _ _ _=>rfl)
        bB aG ?mi ?mj ?mm ?mr
       case mi=>intro y z W hW hT Q' hQ';dsimp only[D8,B0g]at hQ' ⊢;simp only[List.set_cons_succ,List.set_cons_zero,List.getD_cons_succ,List.getD_cons_zero];have f1:W.cell? ⟨w5.heap.size,32,none⟩=some (.slice A ks.length c):=hT.at_ (by rw[Gw.cells,List.getElem?_append_right (by simp[aH])];simp[aH,Sv.v]);go_wp2_with fail;exact F0 hQ' (by kernel_rfl)
       case mj=>intro x Q' hQ';dsimp only[D8,B0g]at hQ' ⊢;simp only[List.set_cons_succ,List.set_cons_zero,List.getD_cons_succ,List.getD_cons_zero];go_wp2_with fail;refine (Pg g q wr.drew K1.rd).mono ?_;rintro e W2 ⟨rfl,cU⟩;go_wp2_with fail;exact F0 (hQ' _ _ (bB.grown cU.gr (by simp;omega)) (aG.grown cU.gr (by simp;omega)) ⟨rfl,K1.tk cU cO⟩) (by kernel_rfl)
       case mm=>rintro x y W hW hT ⟨rfl,KW⟩ Q' hQ';dsimp only[D8,B0g]at hQ' ⊢;simp only[List.set_cons_succ,List.set_cons_zero,List.getD_cons_succ,List.getD_cons_zero];go_wp2_with fail;have bW:Below W.heap.size W (W.alloc (Obj.cells (c8 (Pz q)).toArray 35)):=(Below.refl _ _).alloc (Nat.le_refl _) _;exact F0 (hQ' _ _ (hW.alloc _) (hT.alloc _) ⟨_,rfl,Bk.new W _ _,KW.up bW⟩) (by kernel_rfl)
       case mr=>
        rintro y z W hW hT ⟨p,rfl,kp,KW⟩;have hO:=KW.own;have dS:Rd W 0 W.heap.size (some ⟨p,0,none⟩) (c8 (Pz q)):=.inr ⟨p,0,rfl,Nat.zero_le _,kp.lt,fun j x hj=>by rw[Nat.zero_add];exact kp.at_ hj⟩;have dT:∀x∈c8 (Pz q),x.oneCell'=true:=by intro x hx;obtain⟨y,_,rfl⟩:=List.mem_map.1 hx;rfl
        have bP:w5.heap.size+1≤W.heap.size:=hT.lt;dsimp only[B0g];simp only[List.set_cons_succ,List.set_cons_zero,List.getD_cons_succ,List.getD_cons_zero];refine C2 5 (by kernel_rfl) (by rfl) (by rfl) (fun Q' hQ'=>?_);dsimp only[D8];have aA:=Lib.hid hQ';clear hQ';go_wp2_with (at_builtin;refine A9z 26 (A8 (z8 32)) 32 Tryz.underlying26 A3s (by simp[A8,Value.cells]) (by decide) (by decide) rfl _ _ rfl rfl (n:=ks.length) (base:=w5.heap.size+1) (xs:=c8 ks.flatten) hO.2 (some ⟨p,0,none⟩) 1 1 rfl (c8 (Pz q)) (by simp[dQ]) 0 _ dS dT (by omega) bP ?_;intro A' c' w8 eP eQ bT cB eR cV);have KF:=KW.app hT aH dQ cO (Nat.le_refl _) bT cB;have cW:=hW.below cB (by omega);have dU:=hT.below cB (Nat.lt_succ_self _);have fI:=dU.frozen 32;have Fe:w8.cell? ⟨w5.heap.size,32,none⟩=some (.slice A ks.length c):=dU.at_ (by rw[Gw.cells,List.getElem?_append_right (by simp[aH])];simp[aH,Sv.v]);refine aA.out _ _ cW ?_;clear aA hO dS dT KW hT kp bT cB eR cV hW;refine C2 6 (by kernel_rfl) (by rfl) (by rfl) (fun Q' hQ'=>?_);dsimp only[D8];go_wp2_with fail;refine hQ' _ _ cW ?_;clear hQ';refine C2 7 (by kernel_rfl) (by rfl) (by rfl) (fun Q' hQ'=>?_);dsimp only[D8];go_wp2_with fail;refine hQ' _ _ (cW.far (p:=⟨w5.heap.size,32,none⟩) (by simp;omega) _) ?_;clear hQ';refine E5 (by kernel_rfl) ?_;go_wp2_with fail;go_roundw;case rel=>exact ⟨k',ks++[Pz q],Z9 32 q,_,by go_num,KF,eM,by simp;omega⟩
        case measure=>simp[intOf]
theorem B6w (v:Value) (l:List UInt8) (w:World) (hv:By w 0 w.heap.size v l) (hn:l.length≤1099511627776) :
 Calls Tryz.prog 14 #[v] w fun x w'=>∃p gv e,x=.returned (.tuple #[gv,.int .i64 e])∧D4y w' p gv e (Da l)∧Below w.heap.size w w':=by
 obtain⟨pa,aA⟩:∃pa,pa=Da l:=⟨_,rfl⟩;have HA:=Lib.hid aA;rw[←aA];clear aA;go_enter Tryz.func14,Tryz.ntmps14;go_wp2_with fail;refine (A1m v l w hv hn).mono ?_;rintro x w1 ⟨p,gv,e,rfl,hp,b1⟩;rw[←HA.out]at hp;have HR:=Lib.hid hp;have bb:Below w1.heap.size w1 (w1.alloc (Obj.cells #[p.val] 122)):=(Below.refl _ _).alloc (Nat.le_refl _) _;clear hp;go_wp2_with fail;refine bodyPost_ret (E3 rfl (C9.tmp rfl) (C9.tmp rfl)) rfl ⟨p,gv,e,rfl,?_,C0 b1 bb b1.size⟩;have:=HR.out;cases pa with
 | error e'=>exact this
 | ok r=>
  obtain⟨p',gs⟩:=r;obtain⟨h1,h2,h3⟩:=this;exact ⟨h1,h2,h3.grown (row:=none) (T:=122) ⟨bb.os,bb.tape,bb.output,bb.size,fun k hk _=>bb.block k hk⟩ (fun g e=>by cases e) (by decide) (by decide) (by decide)⟩
theorem B8p {P:Program} {w:World} {A:Option Addr} {n c:Nat} {l:List UInt8} (h:By w 0 w.heap.size (.slice A n c) l):(Extern.Bytes.bytesOf (.slice A n c)).run P w=.ok ⟨l.toArray⟩ w:=by
 obtain⟨A',c',e,_,_,hr⟩:=h.open_;injection e with e1 e2 e3;subst e1 e2;rcases hr with h | ⟨g,o,rfl,_,_,hc⟩
 ·obtain rfl:l=[]:=by simpa using h
  cases A with
  | none=>rfl
  | some a=>rfl
 ·have hb:Lib.bytesOf (l.map fun x=>(x.toNat:Int))=l:=by
   unfold Lib.bytesOf;rw[List.map_map];conv=>rhs;rw[←List.map_id l]
   refine List.map_congr_left fun x _=>?_;simp
  have hl:=Lib.run_loadBytesX (P:=P) w (l.map fun x=>(x.toNat:Int)) ⟨g,o,none⟩ .empty (fun j x hj=>by
   have e:(⟨g,o,none⟩:Addr).add j=⟨g,o+j,none⟩:=by unfold Addr.add;split<;>simp_all
   rw[e];rw[List.getElem?_map]at hj;cases hl:l[j]? with
   | none=>rw[hl]at hj;simp at hj
   | some y=>
    rw[hl]at hj;have hx:x=(y.toNat:Int):=by simpa using hj.symm
    subst hx;have h2:(l.map v8)[j]?=some (v8 y):=by rw[List.getElem?_map,hl];rfl
    exact hc j _ h2)
  rw[List.length_map,hb]at hl;show (Extern.Bytes.loadBytes ⟨g,o,none⟩ l.length .empty).run P w=_;rw[hl];simp
theorem Tq (v u:Value) (a b:List UInt8) (w:World) (hv:By w 0 w.heap.size v a) (hu:By w 0 w.heap.size u b) :
 Calls Tryz.prog 44 #[v,u] w fun x w'=>x=.returned (.int .i64 (Lib.compareBytes a b))∧w'=w:=by
 obtain⟨A,c,rfl,_⟩:=hv.open_;obtain⟨A2,c2,rfl,_⟩:=hu.open_;have hr:(Extern.BytealgCompare.compare #[.slice A a.length c,.slice A2 b.length c2]).run Tryz.prog w=.ok (.int .i64 (Lib.compareBytes a b)) w:=by
  change Sem.run Tryz.prog (do pure (goInt (Extern.BytealgCompare.cmp (←Extern.Bytes.bytesOf (.slice A a.length c)) (←Extern.Bytes.bytesOf (.slice A2 b.length c2))))) w=_;simp only[Sem.run_bind,Sem.run_pure,B8p hv,B8p hu,Result.andThen];rw[Lib.cmp_eq];rfl
 go_enter Tryz.func44,Tryz.ntmps44;go_wp2_with fail;rw[run_callFunc_extern Tryz.func91 (by kernel_rfl) (by kernel_rfl) (by kernel_rfl) (e:=Extern.BytealgCompare.compare) (by kernel_rfl),hr];simp only[Result.andThen];rw[Oper.upon_value];go_wp2_with fail;go_ret;exact ⟨rfl,rfl⟩
end Go.Proofs.YtdfpoofbgjilgaaGreat
