/- A part of the proof of DirBuilds. -/
import Derived.Test.YtlegpkdighoflaaGreatSbo
import Derived.Test.YtlegpkdighoflaaGreatSbp
set_option linter.unusedVariables false
set_option linter.unusedSimpArgs false
set_option maxRecDepth 100000
set_option maxHeartbeats 40000000
namespace Go.Proofs.YtlegpkdighoflaaGreat
open Go Go.RowKit Sh
section
attribute [local go_sem] Oper.semAt_some
structure DbI (w wr : World) (gD : Nat) (ov gv : Value) (bs : List (List UV)) (i : Nat) (dv : Value) (L : List En) (N : Nat) : Prop where
 kd:∃ap b,dv=.agg #[.int .i64 (i:Int),.pointer ap,.int .i64 0,.map b]∧Bk wr gD 34 [.int .i64 (i:Int),.pointer ap,.int .i64 0,.map b]
 k6:Bk wr w.heap.size 4 [.bool false]
 dir:DirIs wr dv i L N
 bat:BatchIs wr ov gv bs
 hN:N≤12*i
 len:L.length≤12*i
 fine:Fine L
 below:Below w.heap.size w wr
theorem DbI.up {w wr w':World} {gD:Nat} {ov gv:Value} {bs:List (List UV)} {i:Nat} {dv:Value} {L:List En} {N:Nat} (h:DbI w wr gD ov gv bs i dv L N) (hb:Below wr.heap.size wr w'):DbI w w' gD ov gv bs i dv L N:=by
 obtain⟨ap,b,h1,h2⟩:=h.kd;exact ⟨⟨ap,b,h1,h2.below hb h2.lt⟩,h.k6.below hb h.k6.lt,h.dir.up hb,h.bat.up hb,h.hN,h.len,h.fine,C0 h.below hb h.below.size⟩
theorem Hs.own {A B:World} {row:Option Nat} {lo C:Nat} {v:Value} {l:List (List UInt8)} (h:Hs A lo C v l) (hg:A.grownBy B row) (hr:∀r,row=some r→∃o:Obj,A.heap[r]?=some o∧o.isCells=false):Hs B lo C v l:=
 let ⟨h0,P,c,h1,h2,h3,h4⟩:=h;⟨h0,P,c,h1,h2,h3,A8g h4 hg hr⟩
theorem C8n (w:World) (raw:Result Next):A6h w raw (.int .u8 200)=.ok (.value (A8 (h1 200))) w:=rfl
theorem C5k (w:World) (raw:Result Next):A6h w raw (.int .u8 201)=.ok (.value (A8 (h1 201))) w:=rfl
theorem Ch {A B:World} {D:Nat} {o:Obj} (h:A.heap[D]?=some o) (hb:Below A.heap.size A B):B.heap[D]?=some o:=by rw[hb.block D (Array.getElem?_eq_some_iff.1 h).1];exact h
theorem Zm {F:Fence} {n B g:Nat} {w:World} {tm:Array Value} (hp:tm[6]?.getD undef=.pointer (some ⟨g,0,none⟩)):∀(l:List Nat) (W:World),(∀D∈l,W.heap[D]?=some (.deferred (some []))∧B≤D)→l.Nodup→Bk W g 4 [.bool true]→Below B w W→
 LeavesInM F n Tryz.prog Tryz.f6 tm (fun x w'=>x=.returned (.bool true)∧Below B w w') (l.map fun D=>{ target:=.collected D,args:=#[] }) .returning W
 | [],W,_,_,hb,hB=>by
  have hc:=hb.at_ (i:=0) rfl;refine ⟨.bool true,?_,rfl,hB⟩;simp[results,Tryz.f6,go_sem,hp,hc]
 | D::l,W,h,hn,hb,hB=>by
  obtain⟨hD,aA⟩:=h D (by simp);have hg:=grownBy_putObj' W D (.deferred none);have hr:∀r,some D=some r→∃o:Obj,W.heap[r]?=some o∧o.isCells=false:=fun r e=>by cases e;exact ⟨_,hD,rfl⟩
  rw[List.nodup_cons]at hn;refine ⟨by simp,.inl ⟨_,_,rfl,run_takeDeferred hD,Zm hp l _ (fun D' hD'=>?_) hn.2 (Y9 hb hg hr) (hB.grown hg (by have:=(Array.getElem?_eq_some_iff.1 hD).1;omega) (fun k e=>by cases e;exact aA))⟩⟩;obtain⟨h1,h2⟩:=h D' (by simp[hD']);exact ⟨(World.putObj_heap_other (fun e=>hn.1 (by rw[←e];exact hD'))).trans h1,h2⟩
theorem A5m {P:Program} {l:List Oper} {Q:Exit→Act→World→Prop} {S:World→Prop} {a:Act} {w:World} {done:List Nat} (i:Nat) {o:Oper} (hr:Eh l done [i]=true) (hi:l[i]?=some o) (hg:Region.wanted o (yielded l.toArray a.tmps)=false) (hS:S w)
 (h:X9 P l Q S (done++[i]) (a.put o.dst undef) w):X9 P l Q S done a w:=by
 have aB:done.length<l.length:=by simp only[Eh,Bool.and_eq_true,decide_eq_true_eq]at hr;exact hr.2
 refine Mt hr (by simp) fun j hj=>?_;obtain rfl:j=i:=by simpa using hj
 unfold wpOp;have aA:l.toArray[j]?=some o:=by simpa using hi
 simp only[aA];rw[if_neg (by rw[hg];decide)];refine ⟨hS,?_⟩;unfold X9 O8 at h;rw[List.foldl_append]at h;rw[show l.length-done.length-1=l.length-(done++[j]).length by simp;omega];exact h
theorem C3h (W:World) (B:Nat):Hs W 0 B (.slice none 0 0) []:=⟨by simp,none,0,rfl,Nat.le_refl _,by decide,.inl rfl⟩
structure AlI (w0 : World) (pre : List KV) (W : World) : Prop where
 ex:∃m,MapV W w0.heap.size pre.length m∧∀k:List UInt8,k.length=32→Hs W 0 W.heap.size ((m k).getD (.slice none 0 0)) (lookE (pre.map KV.en) k)
 box:Bk W (w0.heap.size+1) 32 [.map (some w0.heap.size)]
 below:Below w0.heap.size w0 W
 size:w0.heap.size+2≤W.heap.size
theorem AlI.own_ {w0 X Y:World} {pre:List KV} {row:Option Nat} (h:AlI w0 pre X) (hg:X.grownBy Y row) (hr:∀r,row=some r→w0.heap.size<r∧∃o:Obj,X.heap[r]?=some o∧o.isCells=false):AlI w0 pre Y:=by
 obtain⟨⟨m,h1,h2⟩,h3,h4,h5⟩:=h;have aA:∀r,row=some r→∃o:Obj,X.heap[r]?=some o∧o.isCells=false:=fun r e=>(hr r e).2;exact ⟨⟨m,h1.kept hg (fun e=>by have:=(hr _ e.symm).1;omega),fun k hk=>((h2 k hk).own hg aA).more hg.size⟩,Y9 h3 hg aA,h4.grown hg h4.size (fun k e=>Nat.le_of_lt (hr k e).1),Nat.le_trans h5 hg.size⟩
theorem AlI.ext {w0 W W':World} {pre:List KV} (h:AlI w0 pre W) (hb:Below W.heap.size W W'):AlI w0 pre W':=h.own_ (C8t hb) (fun r e=>by cases e)
attribute [local go_sem ↓ high] Hk Re A2a
attribute [local go_sem] C8n C5k
theorem dirBuilds_any (v:Value) (la:List AV) (e:Int) (mv:Value) (more:List (List UInt8)) (w:World) (hv:As w w.heap.size v la) (hm:Hs w 0 w.heap.size mv more) :
 Calls Tryz.prog 6 #[v,.int .i64 e,mv] w fun x w'=>x=.returned (.bool true)∧Below w.heap.size w w':=by
 obtain⟨Am,cm,rfl,fM,_⟩:=hm.form;obtain⟨nm,dT⟩:∃nm,nm=more.length:=⟨_,rfl⟩;rw[←dT]at hm fM ⊢;have bI:=Lib.hid dT;clear dT;have HA:=Lib.hid hv;refine (callsIn_wide (n:=9)).1 ?_;refine callsIn_of_wp_marks Tryz.func6 rfl trivial ?_ rfl;simp only[Tryz.ntmps6,List.size_toArray,List.length_cons,List.length_nil,Nat.reduceAdd,Nat.reduceSub,Array.replicate_succ,Array.replicate_zero,List.push_toArray,List.append_toArray,List.nil_append,List.cons_append];refine wpIn_wide.2 ?_;obtain⟨w0,cY⟩:∃x,x=w.alloc (Obj.cells #[.bool false] 4):=⟨_,rfl⟩;have B0:Below w.heap.size w w0:=by rw[cY];exact (Below.refl _ _).alloc (Nat.le_refl _) _
 have k0:Bk w0 w.heap.size 4 [.bool false]:=by rw[cY];exact Bk.new w _ _
 go_wp2_with fail;rw[←cY];clear cY hv;refine (C0q w0).mono ?_;rintro x w1 ⟨rfl,b1⟩;have B1:=C0 B0 b1 B0.size;have k1:=k0.below b1 k0.lt;have eV:=Lib.hid (show As w1 w1.heap.size v la from by
  obtain⟨A,c,h1,h2,h3,h4⟩:=HA.out;exact ⟨A,c,h1,h2,h3,(h4.below B1).more B1.size⟩)
 clear HA B0 b1 k0;go_wp2_with fail;refine (B1z v la w1 eV.out).mono ?_;rintro x w2 ⟨ov,gv,bs,rfl,hb,cZ,fN,fO,b2⟩;have B2:=C0 B1 b2 B1.size;have k2:=k1.below b2 k1.lt;obtain⟨⟨Ao,co,rfl⟩,⟨Ag,cg,rfl⟩⟩:=hb.form;obtain⟨n,hn⟩:∃n,n=bs.length:=⟨_,rfl⟩;rw[←hn]at hb cZ ⊢;have HN:=Lib.hid hn;clear b2 eV hn B1 k1;obtain⟨w3,dC⟩:∃x,x=w2.alloc (Obj.cells #[.int .i64 0,.pointer none,.int .i64 0,.map none] 34):=⟨_,rfl⟩;have b3:Below w2.heap.size w2 w3:=by rw[dC];exact (Below.refl _ _).alloc (Nat.le_refl _) _
 have kD:Bk w3 w2.heap.size 34 [.int .i64 0,.pointer none,.int .i64 0,.map none]:=by rw[dC];exact Bk.new w2 _ _
 have I0:DbI w w3 w2.heap.size (.slice Ao n co) (.slice Ag n cg) bs 0 (.agg #[.int .i64 0,.pointer none,.int .i64 0,.map none]) [] 0:=
  ⟨⟨none,none,rfl,kD⟩,k2.below b3 k2.lt,DirIs.nil w3,hb.up b3,Nat.le_refl _,Nat.le_refl _,Fine.nil,C0 B2 b3 B2.size⟩
 have iL:w.heap.size<w2.heap.size:=k2.lt;clear kD B2 b3 hb k2;go_wp2_with fail;rw[←dC];clear dC;generalize w2.heap.size=gD at *;go_loopw [30] (fun x wr=>∃(i:Nat) (dv:Value) (L:List En) (N:Nat),i≤n∧x=.int .i64 (i:Int)∧DbI w wr gD (.slice Ao n co) (.slice Ag n cg) bs i dv L N) (fun x _=>n-(intOf x).toNat)
 case atStart=>exact ⟨0,_,[],0,by omega,rfl,I0⟩
 case round=>
  clear I0;obtain⟨i,dv,L,N,hi,rfl,I⟩:=hrel;by_cases dD:i<n
  ·have hd:decide ((i:Int)<(n:Int))=true:=decide_eq_true (by omega);have dF:decide (i<n)=true:=decide_eq_true dD;obtain⟨us,dG⟩:∃us,bs[i]?=some us:=⟨_,List.getElem?_eq_getElem (by rw[←HN.out];exact dD)⟩;go_wp2_with fail;obtain⟨g1,g2,uv,bv,rfl,rfl,eW,iM,q1,q2,hU,hG,eX⟩:=I.bat.at_ dG;obtain⟨ap,mb,rfl,kD⟩:=I.kd;obtain⟨Au,cu,rfl⟩:=hU.form;have fP:us.length≤12:=fN us (List.mem_of_getElem? dG);have cD:=I.fine.apply hU.allOk (fO us (List.mem_of_getElem? dG));have dU:=I.fine.sm;have fQ:=I.len;have hN:=I.hN;have iN:=(Xq I.dir.okE hU.allOk).2.1;clear dG hG;have S0:Below wr.heap.size wr wr.drew:=(Below.refl _ _).drew;have I1:=I.up S0;have dW:=Lib.hid I1;have HU:=Lib.hid ((hU.below S0).more S0.size);have cE:=kD.drew;have iO:gD<wr.heap.size:=kD.lt;clear hU I;refine F2 (fun X=>X.cell? ⟨g1,i,none⟩=some (.slice Au us.length cu)) (by kernel_rfl) ?_;refine C6 (A:=?iP) [1,2,3,4] (by kernel_rfl) (by kernel_rfl) rfl (by kernel_rfl) (by kernel_rfl) q1 (h:=fun X hX=>?fR) (hr:=?iQ);case fR=>
    have f1:=hX;simp only[pick,List.getElem?_cons_zero,List.getElem?_cons_succ];repeat (go_big_quiet_step (fail))
    refine wpQuiet_nil ?_;rfl
   have bJ:∀ {X:World} {g:Nat} {u:Value},g<wr.heap.size→wr.cell? ⟨g,i,none⟩=some u→Below wr.drew.heap.size wr.drew X→X.cell? ⟨g,i,none⟩=some u:=fun {X g u} hg hu hb=>by
    rw[hb.cell (p:=⟨g,i,none⟩) hg];exact hu
   refine N9 [zv 0 33 (.agg #[.int .i64 (i:Int),.pointer ap,.int .i64 0,.map mb]),⟨5,38,fun v W=>DirIs W v (i+1) (applyE us L) (N+us.length),false⟩] (by kernel_rfl) (fun X hX=>bJ eW q1 hX) ?mo ?st ?re;case mo=>exact List.forall_mem_cons.2 ⟨H7 _ _ _,List.forall_mem_cons.2 ⟨fun _ _ _ h hb=>h.up hb,fun _ h=>by cases h⟩⟩
   case st=>
    refine List.forall_mem_cons.2 ⟨?s0,List.forall_mem_cons.2 ⟨?s5,fun _ h=>by cases h⟩⟩;case s0=>
     intro o ho eY X hX hp Q' hQ';obtain rfl:=Option.some.inj ho;clear hp ho;have f1:E5 X ⟨gD,0,none⟩ 4=some [.int .i64 (i:Int),.pointer ap,.int .i64 0,.map mb]:=(cE.below hX cE.lt).rows;rw[C2]at hQ' ⊢;dsimp only[E4,E0,List.foldl,zv]at hQ' ⊢;simp only[List.set_cons_succ,List.set_cons_zero];go_wp2_with fail;exact C5 (hQ' _ _ (Below.refl _ _) rfl (fun h=>by cases h)) (by kernel_rfl)
    case s5=>intro o ho eY X hX hp Q' hQ';obtain rfl:=Option.some.inj ho;have cF:eY 0=.agg #[.int .i64 (i:Int),.pointer ap,.int .i64 0,.map mb]:=hp 0 _ rfl (by kernel_rfl);clear hp ho;rw[C2]at hQ' ⊢;dsimp only[E4,E0,List.foldl,zv]at hQ' ⊢;simp only[List.set_cons_succ,List.set_cons_zero];rw[cF]at hQ' ⊢;clear cF;have IX:=Lib.hid (dW.out.up hX);have fS:=Lib.hid ((HU.out.below hX).more hX.size);go_wp2_with fail;refine (A2t _ i L N us _ X IX.out.dir fS.out (by omega) (by omega) (by omega) (fun x=>by have:=dU x;omega)).mono ?_;rintro x W2 ⟨fT,rfl,dF,b2⟩;go_wp2_with fail;exact C5 (hQ' _ _ b2 dF (fun h=>by cases h)) (by kernel_rfl)
   case re=>
   intro vs W2 b2 hg dX fU;have dI:DirIs W2 (vs 5) (i+1) (applyE us L) (N+us.length):=hg _ (List.mem_of_getElem? (i:=1) rfl);have cF:vs 0=.agg #[.int .i64 (i:Int),.pointer ap,.int .i64 0,.map mb]:=hg _ (List.mem_of_getElem? (i:=0) rfl);rw[C2];dsimp only[E0,List.foldl,zv];simp only[List.set_cons_succ,List.set_cons_zero];rw[cF];generalize vs 5=fT at *;obtain⟨dY,aJ,rfl⟩:=dI.form;clear hg dX fU cF;have eZ:W2.cell? ⟨g1,i,none⟩=some (.slice Au us.length cu):=bJ eW q1 b2;have I2:=dW.out.up b2;have cG:=cE.below b2 cE.lt;have aR:E8 W2 ⟨gD,0,none⟩ 4=true:=cG.can (by simp);refine C4 6 (by kernel_rfl) (by rfl) (by rfl) (fun Q' hQ'=>?_);dsimp only[E4];have aD:=Lib.hid hQ';clear hQ';have dZ:((i+1:Nat):Int)=(i:Int)+1:=by omega
   rw[dZ]at dI ⊢;go_wp2_with fail;obtain⟨W3,bK⟩:∃y,y=C9 W2 ⟨gD,0,none⟩ [.int .i64 ((i:Int)+1),.pointer dY,.int .i64 0,.map aJ]:=⟨_,rfl⟩;rw[←bK];have fB:W3.cell? ⟨g1,i,none⟩=some (.slice Au us.length cu):=by rw[bK,Hd (eX _ _ _ kD (by decide) (by decide)).1];exact eZ
   have I3:DbI w W3 gD (.slice (some ⟨g1,0,none⟩) n co) (.slice (some ⟨g2,0,none⟩) n cg) bs (i+1) (.agg #[.int .i64 ((i:Int)+1),.pointer dY,.int .i64 0,.map aJ]) (applyE us L) (N+us.length):=
    {
     kd:=⟨dY,aJ,by rw[dZ],by rw[bK,dZ];exact cG.puts (by simp)⟩,
     k6:=by rw[bK];exact I2.k6.putFar (by simp;omega) _,
     dir:=by rw[bK];exact dI.put cG (A1b _ _ _ _) (by decide),
     bat:=by rw[bK];exact I2.bat.put cG (by decide) (by decide) (by decide) (by decide),
     hN:=by omega,
     len:=by omega,
     fine:=cD,
     below:=by rw[bK];exact C1 I2.below (by simp;omega) _ }
   refine aD.out _ _ fB ?_;have fV:=Lib.hid I3;clear aD bK aR I1 dW I2 I3 dI eZ fB kD cE cG eX;refine I9 (by kernel_rfl) ?_;go_wp2_with fail;go_roundw;case rel=>exact ⟨i+1,_,_,_,by omega,by go_num,fV.out⟩
   case measure=>simp[intOf];omega
  ·obtain rfl:i=n:=by omega
   have hd:decide ((i:Int)<(i:Int))=false:=decide_eq_false (by omega);obtain⟨ap,mb,rfl,kD⟩:=I.kd;have fW:=@run_makeMap Tryz.prog;obtain⟨wA,bB⟩:∃y,y=(wr.alloc (.map #[] 0)).alloc (Obj.cells #[.map (some wr.heap.size)] 32):=⟨_,rfl⟩;have eC:=(kD.alloc (.map #[] 0)).alloc (Obj.cells #[.map (some wr.heap.size)] 32);rw[←bB]at eC;have bA:Below wr.heap.size wr wA:=by rw[bB];exact ((Below.refl _ _).alloc (Nat.le_refl _) _).alloc (by simp) _
   have A0:AlI wr [] wA:=by
    refine ⟨⟨fun _=>none,?_,fun k _=>(show Hs wA 0 wA.heap.size (.slice none 0 0) [] from C3h _ _)⟩,?_,bA,by rw[bB];simp⟩
    ·rw[bB];exact MapV.kept (row:=none) (MapV.made wr) (World.grownBy_alloc _ _ none) (by simp)
    ·rw[bB];simpa using Bk.new (wr.alloc (.map #[] 0)) 32 [.map (some wr.heap.size)]
   have r1:E5 wA ⟨gD,0,none⟩ 4=some [.int .i64 (i:Int),.pointer ap,.int .i64 0,.map mb]:=eC.rows;rw[bB]at r1;go_wp2_with fail;rw[←bB];clear r1 fW;refine (callsIn_wide.1 (B1o _ _ _ _ wA 5)).mono ?_;rintro x w4 ⟨rfl,eD⟩;have T4:Bk w4 wA.heap.size 34 [.int .i64 (i:Int),.pointer ap,.int .i64 0,.map mb]:=by rw[eD];exact Bk.new wA _ _
   have b4:Below wA.heap.size wA w4:=by rw[eD];exact (Below.refl _ _).alloc (Nat.le_refl _) _
   have A4:=A0.ext b4;have B4:=A4.below;have fX:=B4.size;have iR:=A4.size;have fY:wA.heap.size=wr.heap.size+2:=by rw[bB];simp
   clear eD b4 A0 eC bA bB;go_wp2_with fail;obtain⟨t,ht⟩:=I.dir.tree;refine (wpIn_wide (n:=5)).1 ?_;refine B4c (F:=Fence.wide) (n:=5) rfl (by omega) (gf:=48) (lb:=#[.pointer (some ⟨wr.heap.size+2,0,none⟩)]) rfl trivial (enters_of Tryz.func48 (by kernel_rfl) rfl)
    (A0u wr i N ap mb L t I.dir ht (fun x=>by have:=I.fine.sm x;omega) (5-1) w4 (wr.heap.size+2) B4 (by rw[←fY];exact T4)) (fun h k=>D3q h k) (D4m fX) (Below.refl _ _) (fun _=>rfl)
    (fun _=>AlI wr) (fun _ _ _=>False) (fun _=>fun s X Y row hs hg hr=>hs.own_ hg fun r e=>⟨by have:=(hr r e).1;omega,(hr r e).2⟩) (fun _=>ownFrom_pure _ _)
    ⟨w4.heap.size,Nat.le_refl _,A4⟩
    (fun z aO Z x a' X=>(aO++[x]).map KV.en <+: L∧AlI wr aO X∧Eu X wr.heap.size x.v x.ks∧∃gk:Nat,Bk X gk 23 (c8 x.id)∧a'=⟨(v :: .int .i64 e :: .slice Am nm cm::undef::undef::undef :: .pointer (some ⟨w.heap.size,0,none⟩) :: .slice Ao i co :: .slice Ag i cg :: .pointer (some ⟨gD,0,none⟩)::u10 :: .pointer (some ⟨wr.heap.size+1,0,none⟩) :: .pointer (some ⟨gk,0,none⟩)::x.v::undef::undef::undef::undef::undef::undef::undef :: .bool true :: .bool false :: .tuple #[.slice Ao i co,.slice Ag i cg]::v :: .tuple #[.slice Ao i co,.slice Ag i cg] :: .slice Ao i co :: .slice Ag i cg :: .slice Ao i co :: .int .i64 (i:Int) :: .int .i64 (i:Int) :: .bool false::u32::u33::u34::u35::u36::u37::u38::u39 :: .map (some wr.heap.size) :: .agg #[.int .i64 (i:Int),.pointer ap,.int .i64 0,.map mb] :: .func (.func 48) #[] #[.pointer (some ⟨wr.heap.size+2,0,none⟩)]::A8 x.id::x.v::undef::undef::undef::undef::undef::undef::undef::undef::undef::undef::undef::undef::undef::undef::undef::undef::undef::undef::undef::undef::undef::undef::undef::undef::undef::undef::undef::undef::undef::undef::undef::undef::undef::undef::undef::undef::undef::undef::undef::undef::undef::undef::undef::undef::undef::undef::undef::undef::undef::undef::undef::undef::undef::undef::undef::undef::undef::undef::undef::undef::undef::undef::undef::undef::undef::undef::undef::undef::undef::undef::undef::undef::undef::undef::undef::undef::undef::undef::undef::undef::undef::undef::undef::undef::undef::undef::undef::undef::undef::undef::undef::undef::undef::undef::undef::undef::undef::undef::undef::undef::undef::undef::undef::undef::undef::undef::undef::undef::undef::[]).toArray,[]⟩)
    (fun z aO Z x a'=>by
     intro s X Y row hs hg hr;obtain⟨h0,h1,h2,gk,h3,h5⟩:=hs;have cH:∀r,row=some r→∃o:Obj,X.heap[r]?=some o∧o.isCells=false:=fun r e=>(hr r e).2;exact ⟨h0,h1.own_ hg fun r e=>⟨by have:=(hr r e).1;omega,(hr r e).2⟩,⟨h2.1,Xd h2.2 hg cH⟩,gk,Y9 h3 hg cH,h5⟩) ?bC ?cI ?cJ ?cK
   case bC=>
    rintro lp z aO ⟨k,ks,xv,hk⟩ V K hI hz cL hK;simp only[D1q];have aR:E8 (V.alloc (Obj.cells (c8 (z8 32)).toArray 23)) ⟨V.heap.size,0,none⟩ 32=true:=(Bk.new V _ _).can (by simp);gi_wp2
    obtain⟨V1,bN⟩:∃y,y=C9 (V.alloc (Obj.cells (c8 (z8 32)).toArray 23)) ⟨V.heap.size,0,none⟩ (c8 k):=⟨_,rfl⟩;rw[←bN];have aS:Below V.heap.size V V1:=by rw[bN];exact C1 ((Below.refl _ _).alloc (Nat.le_refl _) _) (Nat.le_refl _) _
    have K1:Bk V1 V.heap.size 23 (c8 k):=by rw[bN];exact Bk.fresh V _ (by simp[hk])
    have dJ:wr.heap.size≤V.heap.size:=hI.below.size;exact hK _ _ ((Cq aS).from _) ⟨aS.mono dJ,(Cq aS).from _,B3j aS⟩ (Dl.ext aS) ⟨cL.2,hI.ext aS,cL.1.below aS (Nat.le_refl _),V.heap.size,K1,rfl⟩
   case cI=>
    rintro lp z aO ⟨k,ks,xv,hk⟩ a' Z V hl fZ _ gF ⟨dK,AI,O,gk,Kk,rfl⟩ dD;have cA:V.cell? ⟨wr.heap.size+1,0,none⟩=some (.map (some wr.heap.size)):=AI.box.at_ rfl;have rk:E5 V ⟨gk,0,none⟩ 32=some (c8 k):=Kk.row8 hk;obtain⟨m,hm,dL⟩:=AI.ex;replace O:Eu V wr.heap.size xv ks:=O;obtain⟨D,hD,aT⟩:=hm.put hk xv;have cM:aO.length<maxLen:=by have:=I.len;unfold maxLen;omega
    have aH:=hm.row;gi_wp2_with (first | (gi_at_mapUpdate;refine wpListIn_mapUpdate_own _ rfl _ _ _ 32 rfl 23 42 Ck Tryz.underlying32 RV wr.heap.size aO.length D rfl hD cM _ _ (Iu k) rfl rfl (Fy hk) (.held xv) [] rfl ?_;intro V1 aK aA) | fail)
    have eE:aO.map KV.en++[(k,ks)] <+: L:=by rw[List.map_append]at dK;exact dK
    have gG:=fun x=>A0z (A:=aO.map KV.en) (q:=(k,ks)) x (D1c I.fine.ok eE);have cZ:Below wr.heap.size V V1:=(Below.refl _ _).grown aA AI.below.size (fun k e=>by cases e;exact Nat.le_refl _);have iS:KeepsOthers V V1→True:=fun _=>trivial;have bL:∀(b:Nat),wr.heap.size<b→KeepsFrom b V V1:=fun b hb=>⟨aA.size,fun r o hr ho hc=>by
     rw[aA.block r (Array.getElem?_eq_some_iff.1 ho).1 (by simp;omega)];exact ho⟩
    refine ⟨bL _ (by omega),⟨cZ,bL _ (by omega),fun _ _ _ _ h=>Y9 h aA aH⟩,fun _ _ _ _ h=>Y9 h aA aH,_,Nat.le_refl _,⟨Mc m k xv,?_,fun k' hk'=>?_⟩,Y9 AI.box aA aH,AI.below.trans cZ,Nat.le_trans AI.size aA.size⟩
    ·rw[List.length_append,List.length_singleton];exact aT V1 aK
    ·rw[List.map_append,List.map_singleton];show Hs V1 0 V1.heap.size _ (lookE (aO.map KV.en++[(k,ks)]) k');rw[gG k'];unfold Mc;by_cases e:k'=k
     ·rw[if_pos e,if_pos e];exact ((O.hs.less (Nat.zero_le _)).own aA aH).more aA.size
     ·rw[if_neg e,if_neg e];exact ((dL k' hk').own aA aH).more aA.size
   case cJ=>
    rintro D1 z ys V iT hS AI dM;dsimp only;obtain⟨m,hm,dL⟩:=AI.ex;have iU:ys.length=L.length:=by have:=congrArg List.length hS;rw[List.length_map]at this;exact this
    have cA:V.cell? ⟨wr.heap.size+1,0,none⟩=some (.map (some wr.heap.size)):=AI.box.at_ rfl;have aW:=Fr 200;obtain⟨D,cN,aT⟩:=hm.put aW (.slice none 0 0);have cM:ys.length<maxLen:=by have:=I.len;unfold maxLen;omega
    have aH:=hm.row;go_wp2_with (first | (at_mapUpdate;refine wpList_mapUpdate_own _ rfl _ _ _ 32 rfl 23 42 Ck Tryz.underlying32 RV wr.heap.size ys.length D rfl cN cM _ _ (Iu (h1 200)) rfl rfl (Fy aW) (.held (.slice none 0 0)) [] rfl ?_;intro V1 aK aA;have cA:=A2h cA aA aH) | fail);have bZ:MapV V1 wr.heap.size (ys.length+1) (Mc m (h1 200) (.slice none 0 0)):=aT V1 aK;have fC:V1.heap[D1]?=some (.deferred (some [])):=by rw[aA.block D1 (Array.getElem?_eq_some_iff.1 dM).1 (by simp;omega)];exact dM
    have bD:Below wr.heap.size wr V1:=AI.below.grown aA AI.below.size (fun k e=>by cases e;exact Nat.le_refl _);have eF:=Y9 AI.box aA aH;have dN:wr.heap.size+2≤V1.heap.size:=Nat.le_trans AI.size aA.size;have eG:ys.map KV.en=L:=hS;have cB:∀k:List UInt8,k.length=32→Hs V1 0 V1.heap.size ((Mc m (h1 200) (.slice none 0 0) k).getD (.slice none 0 0)) (lookE L k):=fun k hk=>by
     unfold Mc;by_cases e:k=h1 200
     ·rw[if_pos e,e,Bc fun q hq=>(I.fine.ne q hq).1];exact C3h _ _
     ·rw[if_neg e];have:=dL k hk;rw[eG]at this;exact (this.own aA aH).more aA.size
    have gH:∀q∈L,q.2.length≤64:=fun q hq=>by rw[←X2 I.fine.ok.rise q hq];exact I.fine.sm q.1
    clear aT aK aA AI hm dL aH cN aW;refine (A4h e wr.heap.size (ys.length+1) _ L V1 bZ I.fine.ok cB (by have:=I.len;omega) (by have:=I.len;omega)).mono ?_;rintro x w6 ⟨bv,ec,rfl,b6,aX⟩;have B6:=bD.trans (b6.mono bD.size);have fD:=Ch fC b6;have A6:Bk w6 (wr.heap.size+1) 32 [.map (some wr.heap.size)]:=eF.below b6 eF.lt;have fE:=bZ.below b6 (Nat.le_refl _);have fF:=fun k hk=>((cB k hk).below b6).more b6.size;have z6:wr.heap.size+2≤w6.heap.size:=Nat.le_trans dN b6.size;clear b6 fC eF bZ cB dN bD cA;obtain⟨eb,aM,aJ,rfl⟩:∃eb aM aJ,bv=.agg #[.int .i64 eb,.pointer aM,.int .i64 0,.map aJ]:=by
     rcases aX with ⟨_,_,rfl⟩ | ⟨_,_,_,hd⟩
     ·exact ⟨0,none,none,rfl⟩
     ·obtain⟨a,b,h⟩:=hd.form;exact ⟨_,a,b,h⟩
    have k0:=Bk.new w6 34 [.int .i64 0,.pointer none,.int .i64 0,.map none];have aR:E8 (w6.alloc (Obj.cells #[.int .i64 0,.pointer none,.int .i64 0,.map none] 34)) ⟨w6.heap.size,0,none⟩ 4=true:=k0.can (by simp);obtain⟨w7,cC⟩:∃y,y=C9 (w6.alloc (Obj.cells #[.int .i64 0,.pointer none,.int .i64 0,.map none] 34)) ⟨w6.heap.size,0,none⟩ [.int .i64 eb,.pointer aM,.int .i64 0,.map aJ]:=⟨_,rfl⟩;have dO:Bk w7 w6.heap.size 34 [.int .i64 eb,.pointer aM,.int .i64 0,.map aJ]:=by rw[cC];exact k0.puts (by simp)
    have b7:Below w6.heap.size w6 w7:=by rw[cC];exact C1 ((Below.refl _ _).alloc (Nat.le_refl _) _) (Nat.le_refl _) _
    have B7:=B6.trans (b7.mono B6.size);have eH:=Ch fD b7;have I7:=I.up B7;by_cases he:e<0
    ·have hd:decide (e<0)=true:=decide_eq_true he;obtain⟨rfl,h0⟩:ec=2∧eb=0:=by
      rcases aX with ⟨_,h1,h2⟩ | ⟨h1,_⟩
      ·unfold C3v at h2;simp at h2;exact ⟨h1,h2.1⟩
      ·omega
     subst h0;have r7:E5 w7 ⟨w6.heap.size,0,none⟩ 4=some [.int .i64 0,.pointer aM,.int .i64 0,.map aJ]:=dO.rows;rw[cC]at r7;go_wp2_with fail;rw[←cC];refine (Nn _ _ _ _ w7).mono ?_;rintro x w8 ⟨rfl,b8⟩;have gI:=Ch eH b8;have I8:=I7.up b8;have c6:=I8.k6.at_ (i:=0) rfl;have f6:=I8.k6.frozen 0;go_wp2_with fail;exact Zm rfl [D1] _ (fun D' hD'=>by
      obtain rfl:D'=D1:=by simpa using hD'
      exact ⟨(KeepsOthers.setCell w8 ⟨w.heap.size,0,none⟩ (.bool true)).same D' _ gI rfl,by have:=I.below.size;omega⟩) (by simp) (I8.k6.set_ 0 _) (I8.below.setCell (p:=⟨w.heap.size,0,none⟩) (Nat.le_refl _) _)
    ·obtain⟨rfl,dQ⟩:ec=0∧DirIs w6 (.agg #[.int .i64 eb,.pointer aM,.int .i64 0,.map aJ]) e.toNat L (ys.length+1):=by
      rcases aX with ⟨h1 | ⟨q,hq,h1⟩,_⟩ | ⟨_,_,h1,h2⟩
      ·exact (he h1).elim
      ·have:=gH q hq;omega
      ·exact ⟨h1,h2⟩
     obtain⟨E,rfl⟩:∃E:Nat,e=(E:Int):=⟨e.toNat,by omega⟩;rw[Int.toNat_natCast]at dQ;obtain rfl:eb=(E:Int):=by
      obtain⟨a,b,h⟩:=dQ.form;simp at h;exact h.1
     have hd:decide ((E:Int)<0)=false:=decide_eq_false he;have cO:=dQ.up b7;have iV:=t.root_length;go_wp2_with fail;rw[←cC];clear cC k0 aR;obtain⟨W,hW⟩:∃W,W=w7.drew:=⟨_,rfl⟩;have bn:Below w7.heap.size w7 W:=by rw[hW];exact (Below.refl _ _).drew
     have aB:=dO.below bn dO.lt;have aC:=(kD.below B7 kD.lt).below bn (Nat.lt_of_lt_of_le kD.lt B7.size);have In:=I7.up bn;have aG:=cO.up bn;have aP:=Ch eH bn;have An:=(A6.below b7 A6.lt).below bn (Nat.lt_of_lt_of_le A6.lt b7.size);have Mn:=(fE.below b7 (Nat.le_refl _)).below bn (Nat.le_refl _);have sn:=fun k hk=>((((fF k hk).below b7).more b7.size).below bn).more bn.size;have Bn:=B7.trans (bn.mono B7.size);clear dO I7 cO eH A6 fE fF bn b7 B7 dQ fD B6;have gJ:=aB.lt;generalize w6.heap.size=gB at *;refine F2 (fun X=>Bk X gB 34 [.int .i64 (E:Int),.pointer aM,.int .i64 0,.map aJ]∧Bk X gD 34 [.int .i64 (i:Int),.pointer ap,.int .i64 0,.map mb]) (by kernel_rfl) ?_;rw[←hW];clear hW;refine C6 (A:=?iW) [0,1,2,3,5] (by kernel_rfl) (by kernel_rfl) rfl (by kernel_rfl) (by kernel_rfl) ⟨aB,aC⟩ (h:=fun X hX=>?gK) (hr:=?rd1);case gK=>
      have f1:E5 X ⟨gB,0,none⟩ 4=some [.int .i64 (E:Int),.pointer aM,.int .i64 0,.map aJ]:=hX.1.rows;have f2:E5 X ⟨gD,0,none⟩ 4=some [.int .i64 (i:Int),.pointer ap,.int .i64 0,.map mb]:=hX.2.rows;simp only[pick,List.getElem?_cons_zero,List.getElem?_cons_succ];repeat (go_big_quiet_step (fail))
      refine wpQuiet_nil ?_;rfl
     refine C4 4 (by kernel_rfl) (by rfl) (by kernel_rfl) (fun Q' hQ'=>?_);dsimp only[E4];have aD:=Lib.hid hQ';clear hQ';go_wp2_with fail;refine (Nn _ _ _ _ _).mono ?_;rintro x wn ⟨rfl,bn⟩;have aB:=aB.below bn aB.lt;have aC:=aC.below bn aC.lt;have In:=In.up bn;have aG:=aG.up bn;have aP:=Ch aP bn;have An:=An.below bn An.lt;have Mn:=Mn.below bn (Nat.le_refl _);have sn:=fun k hk=>((sn k hk).below bn).more bn.size;have Bn:=Bn.trans (bn.mono Bn.size);clear bn;go_wp2_with fail;refine aD.out _ _ ⟨aB,aC⟩ ?_;clear aD;refine C6 (A:=?iX) [6,7,8,9,11] (by kernel_rfl) (by kernel_rfl) rfl (by kernel_rfl) (by kernel_rfl) ⟨aB,aC⟩ (h:=fun X hX=>?dF) (hr:=?iY);case dF=>
      have f1:E5 X ⟨gB,0,none⟩ 4=some [.int .i64 (E:Int),.pointer aM,.int .i64 0,.map aJ]:=hX.1.rows;have f2:E5 X ⟨gD,0,none⟩ 4=some [.int .i64 (i:Int),.pointer ap,.int .i64 0,.map mb]:=hX.2.rows;simp only[List.append_eq,List.nil_append,List.cons_append,pick,List.getElem?_cons_zero,List.getElem?_cons_succ];repeat (go_big_quiet_step (fail))
      refine wpQuiet_nil ?_;rfl
     refine C4 10 (by kernel_rfl) (by rfl) (by kernel_rfl) (fun Q' hQ'=>?_);dsimp only[E4];have aD:=Lib.hid hQ';clear hQ';go_wp2_with fail;refine (Lv aG ht).mono ?_;rintro x wn ⟨rfl,bn⟩;have aB:=aB.below bn aB.lt;have aC:=aC.below bn aC.lt;have In:=In.up bn;have aG:=aG.up bn;have aP:=Ch aP bn;have An:=An.below bn An.lt;have Mn:=Mn.below bn (Nat.le_refl _);have sn:=fun k hk=>((sn k hk).below bn).more bn.size;have Bn:=Bn.trans (bn.mono Bn.size);clear bn;go_wp2_with fail;refine aD.out _ _ ⟨aB,aC⟩ ?_;clear aD;refine C4 12 (by kernel_rfl) (by rfl) (by kernel_rfl) (fun Q' hQ'=>?_);dsimp only[E4];have aD:=Lib.hid hQ';clear hQ';go_wp2_with fail;refine (Lv In.dir ht).mono ?_;rintro x wn ⟨rfl,bn⟩;have aB:=aB.below bn aB.lt;have aC:=aC.below bn aC.lt;have In:=In.up bn;have aG:=aG.up bn;have aP:=Ch aP bn;have An:=An.below bn An.lt;have Mn:=Mn.below bn (Nat.le_refl _);have sn:=fun k hk=>((sn k hk).below bn).more bn.size;have Bn:=Bn.trans (bn.mono Bn.size);clear bn;go_wp2_with fail;refine aD.out _ _ ⟨aB,aC⟩ ?_;clear aD;refine C6 (A:=?iZ) [13,14,15,16,19] (by kernel_rfl) (by kernel_rfl) rfl (by kernel_rfl) (by kernel_rfl) ⟨aB,aC⟩ (h:=fun X hX=>?gL) (hr:=?jA);case gL=>
      have f1:E5 X ⟨gB,0,none⟩ 4=some [.int .i64 (E:Int),.pointer aM,.int .i64 0,.map aJ]:=hX.1.rows;have f2:E5 X ⟨gD,0,none⟩ 4=some [.int .i64 (i:Int),.pointer ap,.int .i64 0,.map mb]:=hX.2.rows;simp only[List.append_eq,List.nil_append,List.cons_append,pick,List.getElem?_cons_zero,List.getElem?_cons_succ];repeat (go_big_quiet_step (fail))
      refine wpQuiet_nil ?_;rfl
     refine C4 17 (by kernel_rfl) (by rfl) (by kernel_rfl) (fun Q' hQ'=>?_);dsimp only[E4];have aD:=Lib.hid hQ';clear hQ';go_wp2_with fail;refine (Mb _ _ _ _ _).mono ?_;rintro x wn ⟨rfl,bn⟩;have aB:=aB.below bn aB.lt;have aC:=aC.below bn aC.lt;have In:=In.up bn;have aG:=aG.up bn;have aP:=Ch aP bn;have An:=An.below bn An.lt;have Mn:=Mn.below bn (Nat.le_refl _);have sn:=fun k hk=>((sn k hk).below bn).more bn.size;have Bn:=Bn.trans (bn.mono Bn.size);clear bn;go_wp2_with fail;refine aD.out _ _ ⟨aB,aC⟩ ?_;clear aD;refine C4 18 (by kernel_rfl) (by rfl) (by kernel_rfl) (fun Q' hQ'=>?_);dsimp only[E4];have aD:=Lib.hid hQ';clear hQ';go_wp2_with fail;refine (Df t (.pointer aM) 0 _ (A5g aG ht)).mono ?_;rintro x wn ⟨rfl,bn⟩;have aB:=aB.below bn aB.lt;have aC:=aC.below bn aC.lt;have In:=In.up bn;have aG:=aG.up bn;have aP:=Ch aP bn;have An:=An.below bn An.lt;have Mn:=Mn.below bn (Nat.le_refl _);have sn:=fun k hk=>((sn k hk).below bn).more bn.size;have Bn:=Bn.trans (bn.mono Bn.size);clear bn;go_wp2_with fail;refine aD.out _ _ ⟨aB,aC⟩ ?_;clear aD;refine C4 20 (by kernel_rfl) (by rfl) (by kernel_rfl) (fun Q' hQ'=>?_);dsimp only[E4];have aD:=Lib.hid hQ';clear hQ';go_wp2_with fail;refine (Mb _ _ _ _ _).mono ?_;rintro x wn ⟨rfl,bn⟩;have aB:=aB.below bn aB.lt;have aC:=aC.below bn aC.lt;have In:=In.up bn;have aG:=aG.up bn;have aP:=Ch aP bn;have An:=An.below bn An.lt;have Mn:=Mn.below bn (Nat.le_refl _)
     have sn:=fun k hk=>((sn k hk).below bn).more bn.size;have Bn:=Bn.trans (bn.mono Bn.size);clear bn;go_wp2_with fail;refine aD.out _ _ ⟨aB,aC⟩ ?_;clear aD;refine C4 21 (by kernel_rfl) (by rfl) (by kernel_rfl) (fun Q' hQ'=>?_);dsimp only[E4];have aD:=Lib.hid hQ';clear hQ';go_wp2_with fail;refine (Df t (.pointer ap) 0 _ (A5g In.dir ht)).mono ?_;rintro x wn ⟨rfl,bn⟩;have aB:=aB.below bn aB.lt;have aC:=aC.below bn aC.lt;have In:=In.up bn;have aG:=aG.up bn;have aP:=Ch aP bn;have An:=An.below bn An.lt;have Mn:=Mn.below bn (Nat.le_refl _);have sn:=fun k hk=>((sn k hk).below bn).more bn.size;have Bn:=Bn.trans (bn.mono Bn.size);clear bn;go_wp2_with fail;refine aD.out _ _ ⟨aB,aC⟩ ?_;clear aD;refine C6 (A:=?jB) [22,23] (by kernel_rfl) (by kernel_rfl) rfl (by kernel_rfl) (by kernel_rfl) ⟨aB,aC⟩ (h:=fun X hX=>?gM) (hr:=?jC);case gM=>
      have f1:E5 X ⟨gB,0,none⟩ 4=some [.int .i64 (E:Int),.pointer aM,.int .i64 0,.map aJ]:=hX.1.rows;have f2:E5 X ⟨gD,0,none⟩ 4=some [.int .i64 (i:Int),.pointer ap,.int .i64 0,.map mb]:=hX.2.rows;simp only[List.append_eq,List.nil_append,List.cons_append,pick,List.getElem?_cons_zero,List.getElem?_cons_succ];repeat (go_big_quiet_step (fail))
      refine wpQuiet_nil ?_;rfl
     refine I9 (by kernel_rfl) ?_;have r1:E5 wn ⟨gD,0,none⟩ 4=some [.int .i64 (i:Int),.pointer ap,.int .i64 0,.map mb]:=aC.rows;go_wp2_with fail;clear r1;refine (callsIn_wide.1 (B1o _ _ _ _ wn 5)).mono ?_;rintro x w9 ⟨rfl,eI⟩;have T9:Bk w9 wn.heap.size 34 [.int .i64 (i:Int),.pointer ap,.int .i64 0,.map mb]:=by rw[eI];exact Bk.new wn _ _
     have b9:Below wn.heap.size wn w9:=by rw[eI];exact (Below.refl _ _).alloc (Nat.le_refl _) _
     clear eI;go_wp2_with fail;have eJ:=b9.size;refine (wpIn_wide (n:=5)).1 ?_;refine B4c (F:=Fence.wide) (n:=5) rfl (by omega) (gf:=48) (lb:=#[.pointer (some ⟨wn.heap.size,0,none⟩)]) rfl trivial (enters_of Tryz.func48 (by kernel_rfl) rfl)
      (A0u wn i N ap mb L t In.dir ht (fun x=>by have:=I.fine.sm x;omega) (5-1) w9 wn.heap.size b9 T9) (fun h k=>D3q h k) (D4m eJ) (Below.refl _ _) (fun _=>rfl)
      (fun _ _ X=>Below wn.heap.size wn X) (fun _ _ _=>False) (fun _=>fun s X Y row hs hg hr=>hs.grown hg hs.size (fun r e=>Nat.le_trans eJ (hr r e).1)) (fun _=>ownFrom_pure _ _)
      ⟨w9.heap.size,Nat.le_refl _,b9⟩
      (fun z aO Z x a' X=>(aO++[x]).map KV.en <+: L∧Below wn.heap.size wn X∧Eu X wn.heap.size x.v x.ks∧∃gk:Nat,Bk X gk 23 (c8 x.id)∧a'=⟨(v :: .int .i64 (E:Int) :: .slice Am nm cm::undef::undef::undef :: .pointer (some ⟨w.heap.size,0,none⟩) :: .slice Ao i co :: .slice Ag i cg :: .pointer (some ⟨gD,0,none⟩)::u10 :: .pointer (some ⟨wr.heap.size+1,0,none⟩)::undef::undef :: .pointer (some ⟨gB,0,none⟩) :: .int .i64 0 :: .pointer (some ⟨gk,0,none⟩)::x.v::undef::undef::undef :: .bool true :: .bool false :: .tuple #[.slice Ao i co,.slice Ag i cg]::v :: .tuple #[.slice Ao i co,.slice Ag i cg] :: .slice Ao i co :: .slice Ag i cg :: .slice Ao i co :: .int .i64 (i:Int) :: .int .i64 (i:Int) :: .bool false::u32::u33::u34::u35::u36::u37::u38::u39 :: .map (some wr.heap.size) :: .agg #[.int .i64 (i:Int),.pointer ap,.int .i64 0,.map mb] :: .func (.func 48) #[] #[.pointer (some ⟨wr.heap.size+2,0,none⟩)]::undef::undef::undef::undef::undef :: .map (some wr.heap.size)::A8 (h1 200) :: .tuple #[.agg #[.int .i64 (E:Int),.pointer aM,.int .i64 0,.map aJ],.int .i64 0] :: .int .i64 (E:Int) :: .map (some wr.heap.size) :: .tuple #[.agg #[.int .i64 (E:Int),.pointer aM,.int .i64 0,.map aJ],.int .i64 0] :: .agg #[.int .i64 (E:Int),.pointer aM,.int .i64 0,.map aJ] :: .int .i64 0 :: .int .i64 (E:Int) :: .bool false::undef::undef::undef::undef::undef::undef::undef :: .int .i64 0 :: .bool false :: .bool false :: .agg #[.int .i64 (E:Int),.pointer aM,.int .i64 0,.map aJ] :: .int .i64 (E:Int) :: .int .i64 (E:Int) :: .bool false :: .bool false :: .bool false :: .agg #[.int .i64 (E:Int),.pointer aM,.int .i64 0,.map aJ]::A8 t.root :: .agg #[.int .i64 (i:Int),.pointer ap,.int .i64 0,.map mb]::A8 t.root :: .bool false :: .bool false :: .bool false :: .agg #[.int .i64 (E:Int),.pointer aM,.int .i64 0,.map aJ] :: .agg #[.pointer aM,.int .i64 0] :: .int .i64 (t.len:Int) :: .agg #[.int .i64 (i:Int),.pointer ap,.int .i64 0,.map mb] :: .agg #[.pointer ap,.int .i64 0] :: .int .i64 (t.len:Int) :: .bool false :: .bool false :: .agg #[.int .i64 (i:Int),.pointer ap,.int .i64 0,.map mb] :: .func (.func 48) #[] #[.pointer (some ⟨wn.heap.size,0,none⟩)]::A8 x.id::x.v::undef::undef::undef::undef::undef::undef::undef::undef::undef::undef::undef::undef::undef::undef::undef::undef::undef::undef::undef::undef::undef::undef::undef::undef::undef::undef::undef::undef::undef::undef::undef::undef::undef::undef::undef::undef::undef::undef::undef::undef::undef::undef::undef::undef::undef::undef::undef::undef::undef::undef::undef::undef::undef::undef::undef::undef::undef::undef::undef::undef::undef::[]).toArray,[]⟩)
      (fun z aO Z x a'=>by
       intro s X Y row hs hg hr;obtain⟨h0,h1,h2,gk,h3,h5⟩:=hs;have cH:∀r,row=some r→∃o:Obj,X.heap[r]?=some o∧o.isCells=false:=fun r e=>(hr r e).2;exact ⟨h0,h1.grown hg h1.size (fun r e=>Nat.le_trans eJ (hr r e).1),⟨h2.1,Xd h2.2 hg cH⟩,gk,Y9 h3 hg cH,h5⟩) ?aY ?bO ?bP ?bQ
     case aY=>
      rintro lp z aO ⟨k,ks,xv,hk⟩ V K hI hz cL hK;simp only[D1q];have aR:E8 (V.alloc (Obj.cells (c8 (z8 32)).toArray 23)) ⟨V.heap.size,0,none⟩ 32=true:=(Bk.new V _ _).can (by simp);gi_wp2
      obtain⟨V1,bN⟩:∃y,y=C9 (V.alloc (Obj.cells (c8 (z8 32)).toArray 23)) ⟨V.heap.size,0,none⟩ (c8 k):=⟨_,rfl⟩;rw[←bN];have aS:Below V.heap.size V V1:=by rw[bN];exact C1 ((Below.refl _ _).alloc (Nat.le_refl _) _) (Nat.le_refl _) _
      have K1:Bk V1 V.heap.size 23 (c8 k):=by rw[bN];exact Bk.fresh V _ (by simp[hk])
      have dJ:wn.heap.size≤V.heap.size:=hI.size;exact hK _ _ ((Cq aS).from _) ⟨aS.mono dJ,(Cq aS).from _,B3j aS⟩ (Dl.ext aS) ⟨cL.2,hI.trans (aS.mono dJ),cL.1.below aS (Nat.le_refl _),V.heap.size,K1,rfl⟩
     case bO=>
      rintro lp z aO ⟨k,ks,xv,hk⟩ a' Z V hl fZ _ gF ⟨dK,BI,O,gk,Kk,rfl⟩ dD;have rk:E5 V ⟨gk,0,none⟩ 32=some (c8 k):=Kk.row8 hk;have rb:E5 V ⟨gB,0,none⟩ 4=some [.int .i64 (E:Int),.pointer aM,.int .i64 0,.map aJ]:=(aB.below BI aB.lt).rows;have gN:=aG.up BI;replace O:Eu V wn.heap.size xv ks:=O;have eK:lookE L k=ks:=X2 I.fine.ok.rise (k,ks) (dK.subset (by simp[KV.en]));obtain⟨Ak,ck,hxv,_,-⟩:=O.form;subst hxv;gi_wp2
      refine ⟨trivial,?_⟩;refine (CallsIn.inRound lp (callsIn_wide.2 (Og gN k hk (by have:=I.fine.sm k;omega)))).mono ?_;rintro x5 V5 ⟨u5,rfl,eL,b5⟩;rw[eK]at eL;have O5:=O.below b5 (Nat.le_refl _);obtain⟨Au5,cu5,hu5,_,-⟩:=eL.form;subst hu5;gi_wp2
      refine ⟨trivial,?_⟩;refine (CallsIn.inRound lp (callsIn_wide.2 (Me _ _ ks V5 ((eL.hs).less (Nat.zero_le _)) ((O5.hs).less (Nat.zero_le _))))).mono ?_;rintro x6 V6 ⟨rfl,b6⟩;have T6:=C0 b5 b6 b5.size;gi_wp2
      exact ⟨(Cq T6).from _,⟨T6.mono BI.size,(Cq T6).from _,B3j T6⟩,Dl.ext T6,_,Nat.le_refl _,BI.trans (T6.mono BI.size)⟩
     case bQ=>rintro D cc aO V gO eM h dM;exact h.elim
     case bP=>
      rintro D2 z2 jD V gP jE BI bR;dsimp only;have aL:=Fr 201;have eN:=Mn.below BI (Nat.le_refl _);have cA:V.cell? ⟨wr.heap.size+1,0,none⟩=some (.map (some wr.heap.size)):=(An.below BI An.lt).at_ rfl;obtain⟨Dm,cN,aT⟩:=eN.put aL (.slice Am nm cm);have cM:ys.length+1<maxLen:=by have:=I.len;unfold maxLen;omega
      have aH:=eN.row;go_wp2_with (first | (at_mapUpdate;refine wpList_mapUpdate_own _ rfl _ _ _ 32 rfl 23 42 Ck Tryz.underlying32 RV wr.heap.size (ys.length+1) Dm rfl cN cM _ _ (Iu (h1 201)) rfl rfl (Fy aL) (.held (.slice Am nm cm)) [] rfl ?_;intro V1 aK aA;have cA:=A2h cA aA aH) | fail);have bZ:MapV V1 wr.heap.size (ys.length+1+1) (Mc (Mc m (h1 200) (.slice none 0 0)) (h1 201) (.slice Am nm cm)):=aT V1 aK;have gQ:D1<wn.heap.size:=(Array.getElem?_eq_some_iff.1 aP).1;have fG:V1.heap[D1]?=some (.deferred (some [])):=by have:=Ch aP BI;rw[aA.block D1 (Array.getElem?_eq_some_iff.1 this).1 (by simp;omega)];exact this
      have fH:V1.heap[D2]?=some (.deferred (some [])):=by rw[aA.block D2 (Array.getElem?_eq_some_iff.1 bR).1 (by have:=Bn.size;simp;omega)];exact bR
      have bD:Below wr.heap.size wr V1:=(Bn.trans (BI.mono Bn.size)).grown aA (Nat.le_trans Bn.size BI.size) (fun k e=>by cases e;exact Nat.le_refl _);obtain⟨L2,fI,bE,cP,cQ⟩:∃L2,OkE L2∧(∀k,lookE L2 k=if k=h1 201 then more else lookE L k)∧(more≠[]→L2.length=L.length+1)∧(more=[]→L2=L):=by
       have dS:∀q∈L,q.1≠h1 201:=fun q hq=>(I.fine.ne q hq).2;by_cases aZ:more=[]
       ·refine ⟨L,I.fine.ok,fun k=>?_,fun h=>(h aZ).elim,fun _=>rfl⟩;by_cases e:k=h1 201
        ·rw[if_pos e,e,aZ,Bc dS]
        ·rw[if_neg e]
       ·have hp:=List.length_pos_iff.2 aZ;exact ⟨Wr (h1 201) more L,I.fine.ok.add aL dS hp hm.1,fun k=>C0k I.fine.ok aL dS hp hm.1 k,fun _=>C9w I.fine.ok aL dS,fun h=>(aZ h).elim⟩
      have cB:∀k:List UInt8,k.length=32→Hs V1 0 V1.heap.size ((Mc (Mc m (h1 200) (.slice none 0 0)) (h1 201) (.slice Am nm cm) k).getD (.slice none 0 0)) (lookE L2 k):=fun k hk=>by
       rw[bE k,Mc];by_cases e:k=h1 201
       ·rw[if_pos e,if_pos e];exact (hm.below (I.below.trans (bD.mono I.below.size))).more (Nat.le_trans I.below.size bD.size)
       ·rw[if_neg e,if_neg e];exact ((((sn k hk).below BI).more BI.size).own aA aH).more aA.size
      have gR:L2.length≤L.length+1:=by
       by_cases aZ:more=[]
       ·rw[cQ aZ];omega
       ·rw[cP aZ];exact Nat.le_refl _
      clear aT aK aA aH cN eN sn An Mn aP aB aG BI bR In aC;refine (A4h E wr.heap.size (ys.length+1+1) _ L2 V1 bZ fI cB (by have:=I.len;omega) (by have:=I.len;omega)).mono ?_;rintro x wa ⟨cv,fJ,rfl,ba,aU⟩;have Ba:=bD.trans (ba.mono bD.size);have cR:=Ch fG ba;have cS:=Ch fH ba;have bS:D2≠D1:=by omega
      clear fG fH ba bD cB bZ;obtain⟨cT,aN,aQ,rfl⟩:∃eb aM aJ,cv=.agg #[.int .i64 eb,.pointer aM,.int .i64 0,.map aJ]:=by
       rcases aU with ⟨_,_,rfl⟩ | ⟨_,_,_,hd⟩
       ·exact ⟨0,none,none,rfl⟩
       ·obtain⟨a,b,h⟩:=hd.form;exact ⟨_,a,b,h⟩
      have k0:=Bk.new wa 34 [.int .i64 0,.pointer none,.int .i64 0,.map none];have aR:E8 (wa.alloc (Obj.cells #[.int .i64 0,.pointer none,.int .i64 0,.map none] 34)) ⟨wa.heap.size,0,none⟩ 4=true:=k0.can (by simp);obtain⟨wb,bT⟩:∃y,y=C9 (wa.alloc (Obj.cells #[.int .i64 0,.pointer none,.int .i64 0,.map none] 34)) ⟨wa.heap.size,0,none⟩ [.int .i64 cT,.pointer aN,.int .i64 0,.map aQ]:=⟨_,rfl⟩;have kc:Bk wb wa.heap.size 34 [.int .i64 cT,.pointer aN,.int .i64 0,.map aQ]:=by rw[bT];exact k0.puts (by simp)
      have bb:Below wa.heap.size wa wb:=by rw[bT];exact C1 ((Below.refl _ _).alloc (Nat.le_refl _) _) (Nat.le_refl _) _
      have Bb:=Ba.trans (bb.mono Ba.size);have bU:=Ch cR bb;have bV:=Ch cS bb;have Ib:=I.up Bb;have bX:w.heap.size≤D2:=by have:=I.below.size;have:=Bn.size;omega
      have bY:w.heap.size≤D1:=by have:=I.below.size;omega
      have jF:w.heap.size<wa.heap.size:=Nat.lt_of_lt_of_le I.k6.lt Ba.size;clear cR cS k0 Ba;by_cases h64:64<nm
      ·have gS:decide ((64:Int)<(nm:Int))=true:=decide_eq_true (by omega);have gT:decide (64<nm)=true:=decide_eq_true h64;obtain⟨rfl,h0⟩:fJ=2∧cT=0:=by
        rcases aU with ⟨_,q1,q2⟩ | ⟨_,q1,_⟩
        ·unfold C3v at q2;simp at q2;exact ⟨q1,q2.1⟩
        ·have q2:=bE (h1 201);rw[if_pos rfl]at q2;have q3:=q1 (h1 201,lookE L2 (h1 201)) (Tx (fun e=>by
          rw[q2]at e;have:=bI.out;rw[e]at this;simp at this;omega))
         rw[q2]at q3;have:=bI.out;simp only[]at q3;omega
       subst h0;have r7:E5 wb ⟨wa.heap.size,0,none⟩ 4=some [.int .i64 0,.pointer aN,.int .i64 0,.map aQ]:=kc.rows;rw[bT]at r7;go_wp2_with fail;rw[←bT];refine (Nn _ _ _ _ wb).mono ?_;rintro x wc ⟨rfl,bc⟩;have bF:=Ch bU bc;have bG:=Ch bV bc;have Ic:=Ib.up bc;have c6:=Ic.k6.at_ (i:=0) rfl;have f6:=Ic.k6.frozen 0;go_wp2_with fail;exact Zm rfl [D2,D1] _ (fun D' hD'=>by
        have hk:=KeepsOthers.setCell wc ⟨w.heap.size,0,none⟩ (.bool true);rcases List.mem_cons.1 hD' with rfl | hD'
        ·exact ⟨hk.same _ _ bG rfl,bX⟩
        ·obtain rfl:D'=D1:=by simpa using hD'
         exact ⟨hk.same _ _ bF rfl,bY⟩) (by simp[bS]) (Ic.k6.set_ 0 _) (Ic.below.setCell (p:=⟨w.heap.size,0,none⟩) (Nat.le_refl _) _)
      ·have gS:decide ((64:Int)<(nm:Int))=false:=decide_eq_false (by omega);have gT:decide (64<nm)=false:=decide_eq_false h64;obtain⟨rfl,eO⟩:fJ=0∧DirIs wa (.agg #[.int .i64 cT,.pointer aN,.int .i64 0,.map aQ]) E L2 (ys.length+1+1):=by
        rcases aU with ⟨q1 | ⟨q,hq,q1⟩,_⟩ | ⟨_,_,q1,q2⟩
        ·omega
        ·rw[←X2 fI.rise q hq,bE]at q1;split at q1
         ·have:=bI.out;omega
         ·have:=I.fine.sm q.1;omega
        ·exact ⟨q1,by simpa using q2⟩
       obtain rfl:cT=(E:Int):=by
        obtain⟨a,b,h⟩:=eO.form;simp at h;exact h.1
       have cU:=eO.up bb;obtain⟨t2,cV⟩:=eO.tree;have fK:=Lib.hid (show t.len=L.length from by rw[Tr.len_pairs,ht.prs,Al]);have eP:=Lib.hid (show t2.len=L2.length from by rw[Tr.len_pairs,cV.prs,Al]);have gU:=t2.root_length;obtain⟨gV,gW,hI,cW⟩:=Ib.kd;obtain⟨rfl,rfl⟩:ap=gV∧mb=gW:=by simpa using hI
       have r1:E5 wb ⟨gD,0,none⟩ 4=some [.int .i64 (i:Int),.pointer ap,.int .i64 0,.map mb]:=cW.rows;rw[bT]at r1;go_wp2_with fail;rw[←bT];clear r1 bT aR;refine (Mb _ _ _ _ wb).mono ?_;rintro x wc ⟨rfl,bc⟩;have cX:=cU.up bc;have Ic:=Ib.up bc;have eQ:=kc.below bc kc.lt;have bF:=Ch bU bc;have bG:=Ch bV bc;go_wp2_with fail;refine (Df t (.pointer ap) 0 wc (A5g Ic.dir ht)).mono ?_;rintro x bM ⟨rfl,bn⟩;have aG:=cX.up bn;have In:=Ic.up bn;have aB:=eQ.below bn eQ.lt;have aC:=(cW.below bc cW.lt).below bn (Nat.lt_of_lt_of_le cW.lt bc.size);have aE:=Ch bF bn;have aF:=Ch bG bn;clear bn bc cX Ic eQ bF bG cU Ib bU bV kc cW;have gJ:=aB.lt;have aI:Hs bM 0 bM.heap.size (.slice Am nm cm) more:=(hm.below In.below).more In.below.size;generalize wa.heap.size=gC at *;have aV:lookE L2 (h1 201)=more:=by rw[bE,if_pos rfl]
       have fL:(lookE L2 (h1 201)).length≤1000000:=by rw[aV];have:=bI.out;omega
       rcases Nat.eq_zero_or_pos nm with hz | hpos
       ·have gX:decide ((0:Int)<(nm:Int))=false:=decide_eq_false (by omega);have gY:decide (0<nm)=false:=decide_eq_false (by omega);have aZ:more=[]:=List.eq_nil_of_length_eq_zero (by have:=bI.out;omega);obtain rfl:t2=t:=(cQ aZ▸cV).uniq ht;clear aZ hz;go_wp2_with fail;obtain⟨W,hW⟩:∃W,W=bM.drew:=⟨_,rfl⟩;have bn:Below bM.heap.size bM W:=by rw[hW];exact (Below.refl _ _).drew
        have aB:=aB.below bn aB.lt;have aC:=aC.below bn aC.lt;have In:=In.up bn;have aG:=aG.up bn;have aE:=Ch aE bn;have aF:=Ch aF bn;have aI:=(aI.below bn).more bn.size;clear bn;refine F2 (fun X=>Bk X gC 34 [.int .i64 (E:Int),.pointer aN,.int .i64 0,.map aQ]∧Bk X gD 34 [.int .i64 (i:Int),.pointer ap,.int .i64 0,.map mb]) (by kernel_rfl) ?_;rw[←hW];clear hW;refine C6 (A:=?jG) [0,1,2,3,4,6] (by kernel_rfl) (by kernel_rfl) rfl (by kernel_rfl) (by kernel_rfl) ⟨aB,aC⟩ (h:=fun X hX=>?dN) (hr:=?jH);case dN=>
         have f1:E5 X ⟨gC,0,none⟩ 4=some [.int .i64 (E:Int),.pointer aN,.int .i64 0,.map aQ]:=hX.1.rows;have f2:E5 X ⟨gD,0,none⟩ 4=some [.int .i64 (i:Int),.pointer ap,.int .i64 0,.map mb]:=hX.2.rows;simp only[pick,List.getElem?_cons_zero,List.getElem?_cons_succ];repeat (go_big_quiet_step (fail))
         refine wpQuiet_nil ?_;rfl
        refine C4 5 (by kernel_rfl) (by rfl) (by kernel_rfl) (fun Q' hQ'=>?_);dsimp only[E4];have aD:=Lib.hid hQ';clear hQ';go_wp2_with fail;refine (Og aG (h1 201) aL fL).mono ?_;rintro x wn ⟨kv,rfl,bH,bn⟩;have aB:=aB.below bn aB.lt;have aC:=aC.below bn aC.lt;have In:=In.up bn;have aG:=aG.up bn;have aE:=Ch aE bn;have aF:=Ch aF bn;have aI:=(aI.below bn).more bn.size;rw[aV]at bH;obtain⟨Ak,ck,rfl,_,-⟩:=bH.form;rw[←bI.out]at bH ⊢;clear bn;go_wp2_with fail;refine aD.out _ _ ⟨aB,aC⟩ ?_;clear aD;refine C4 7 (by kernel_rfl) (by rfl) (by kernel_rfl) (fun Q' hQ'=>?_);dsimp only[E4];have aD:=Lib.hid hQ';clear hQ';go_wp2_with fail;refine (Me _ _ more _ ((bH.hs).less (Nat.zero_le _)) aI).mono ?_;rintro x wn ⟨rfl,bn⟩;have aB:=aB.below bn aB.lt;have aC:=aC.below bn aC.lt;have In:=In.up bn;have aG:=aG.up bn;have aE:=Ch aE bn;have aF:=Ch aF bn;have aI:=(aI.below bn).more bn.size;clear bn;go_wp2_with fail;refine aD.out _ _ ⟨aB,aC⟩ ?_;clear aD;refine C6 (A:=?jI) [8,9,10,13] (by kernel_rfl) (by kernel_rfl) rfl (by kernel_rfl) (by kernel_rfl) ⟨aB,aC⟩ (h:=fun X hX=>?gZ) (hr:=?jJ);case gZ=>
         have f1:E5 X ⟨gC,0,none⟩ 4=some [.int .i64 (E:Int),.pointer aN,.int .i64 0,.map aQ]:=hX.1.rows;have f2:E5 X ⟨gD,0,none⟩ 4=some [.int .i64 (i:Int),.pointer ap,.int .i64 0,.map mb]:=hX.2.rows;simp only[List.append_eq,List.nil_append,List.cons_append,pick,List.getElem?_cons_zero,List.getElem?_cons_succ];repeat (go_big_quiet_step (fail))
         refine wpQuiet_nil ?_;rfl
        refine C4 11 (by kernel_rfl) (by rfl) (by kernel_rfl) (fun Q' hQ'=>?_);dsimp only[E4];have aD:=Lib.hid hQ';clear hQ';go_wp2_with fail;refine (Mb _ _ _ _ _).mono ?_;rintro x wn ⟨rfl,bn⟩;have aB:=aB.below bn aB.lt;have aC:=aC.below bn aC.lt;have In:=In.up bn;have aG:=aG.up bn;have aE:=Ch aE bn;have aF:=Ch aF bn;have aI:=(aI.below bn).more bn.size;clear bn;go_wp2_with fail;refine aD.out _ _ ⟨aB,aC⟩ ?_;clear aD;refine C4 12 (by kernel_rfl) (by rfl) (by kernel_rfl) (fun Q' hQ'=>?_);dsimp only[E4];have aD:=Lib.hid hQ';clear hQ';go_wp2_with fail;refine (Df t2 (.pointer aN) 0 _ (A5g aG cV)).mono ?_;rintro x wn ⟨rfl,bn⟩;have aB:=aB.below bn aB.lt;have aC:=aC.below bn aC.lt;have In:=In.up bn;have aG:=aG.up bn;have aE:=Ch aE bn;have aF:=Ch aF bn;have aI:=(aI.below bn).more bn.size;clear bn;go_wp2_with fail;refine aD.out _ _ ⟨aB,aC⟩ ?_;clear aD;refine C6 (A:=?jK) [14,15,16,17,18,19,20] (by kernel_rfl) (by kernel_rfl) rfl (by kernel_rfl) (by kernel_rfl) ⟨aB,aC⟩ (h:=fun X hX=>?iA) (hr:=?jL);case iA=>
         have f1:E5 X ⟨gC,0,none⟩ 4=some [.int .i64 (E:Int),.pointer aN,.int .i64 0,.map aQ]:=hX.1.rows;have f2:E5 X ⟨gD,0,none⟩ 4=some [.int .i64 (i:Int),.pointer ap,.int .i64 0,.map mb]:=hX.2.rows;simp only[List.append_eq,List.nil_append,List.cons_append,pick,List.getElem?_cons_zero,List.getElem?_cons_succ];repeat (go_big_quiet_step (fail))
         refine wpQuiet_nil ?_;rfl
        refine C6 (A:=?jM) [21,23] (by kernel_rfl) (by kernel_rfl) rfl (by kernel_rfl) (by kernel_rfl) ⟨aB,aC⟩ (h:=fun X hX=>?iB) (hr:=?jN);case iB=>
         have f1:E5 X ⟨gC,0,none⟩ 4=some [.int .i64 (E:Int),.pointer aN,.int .i64 0,.map aQ]:=hX.1.rows;have f2:E5 X ⟨gD,0,none⟩ 4=some [.int .i64 (i:Int),.pointer ap,.int .i64 0,.map mb]:=hX.2.rows;simp only[List.append_eq,List.nil_append,List.cons_append,pick,List.getElem?_cons_zero,List.getElem?_cons_succ];repeat (go_big_quiet_step (fail))
         refine wpQuiet_nil ?_;rfl
        refine C4 22 (by kernel_rfl) (by rfl) (by kernel_rfl) (fun Q' hQ'=>?_);dsimp only[E4];have aD:=Lib.hid hQ';clear hQ';go_wp2_with fail;refine (Lv aG cV).mono ?_;rintro x wn ⟨rfl,bn⟩;have aB:=aB.below bn aB.lt;have aC:=aC.below bn aC.lt;have In:=In.up bn;have aG:=aG.up bn;have aE:=Ch aE bn;have aF:=Ch aF bn;have aI:=(aI.below bn).more bn.size;clear bn;go_wp2_with fail;refine aD.out _ _ ⟨aB,aC⟩ ?_;clear aD;refine C4 24 (by kernel_rfl) (by rfl) (by kernel_rfl) (fun Q' hQ'=>?_);dsimp only[E4];have aD:=Lib.hid hQ';clear hQ';go_wp2_with fail;refine (Lv In.dir ht).mono ?_;rintro x wn ⟨rfl,bn⟩;have aB:=aB.below bn aB.lt;have aC:=aC.below bn aC.lt;have In:=In.up bn;have aG:=aG.up bn;have aE:=Ch aE bn;have aF:=Ch aF bn;have aI:=(aI.below bn).more bn.size;clear bn;go_wp2_with fail;refine aD.out _ _ ⟨aB,aC⟩ ?_;clear aD;refine C6 (A:=?iC) [25,26,27] (by kernel_rfl) (by kernel_rfl) rfl (by kernel_rfl) (by kernel_rfl) ⟨aB,aC⟩ (h:=fun X hX=>?eS) (hr:=?iD);case eS=>
         have f1:E5 X ⟨gC,0,none⟩ 4=some [.int .i64 (E:Int),.pointer aN,.int .i64 0,.map aQ]:=hX.1.rows;have f2:E5 X ⟨gD,0,none⟩ 4=some [.int .i64 (i:Int),.pointer ap,.int .i64 0,.map mb]:=hX.2.rows;simp only[List.append_eq,List.nil_append,List.cons_append,pick,List.getElem?_cons_zero,List.getElem?_cons_succ];repeat (go_big_quiet_step (fail))
         refine wpQuiet_nil ?_;rfl
        have c6:=In.k6.at_ (i:=0) rfl;have f6:=In.k6.frozen 0;refine C4 28 (by kernel_rfl) (by rfl) (by kernel_rfl) (fun Q' hQ'=>?_);dsimp only[E4];have aD:=Lib.hid hQ';clear hQ';go_wp2_with fail;refine aD.out _ _ ⟨aB.far (p:=⟨w.heap.size,0,none⟩) (by simp;omega) _,aC.far (p:=⟨w.heap.size,0,none⟩) (by simp;omega) _⟩ ?_;clear aD;refine I9 (by kernel_rfl) ?_;go_wp2_with fail;exact Zm rfl [D2,D1] _ (fun D' hD'=>by
         have hk:=KeepsOthers.setCell wn ⟨w.heap.size,0,none⟩ (.bool true);rcases List.mem_cons.1 hD' with rfl | hD'
         ·exact ⟨hk.same _ _ aF rfl,bX⟩
         ·obtain rfl:D'=D1:=by simpa using hD'
          exact ⟨hk.same _ _ aE rfl,bY⟩) (by simp[bS]) (In.k6.set_ 0 _) (In.below.setCell (p:=⟨w.heap.size,0,none⟩) (Nat.le_refl _) _)
       ·have gX:decide ((0:Int)<(nm:Int))=true:=decide_eq_true (by omega);have gY:decide (0<nm)=true:=decide_eq_true hpos;have jO:t2.len=t.len+1:=by rw[eP.out,fK.out];exact cP (fun e=>by have:=bI.out;rw[e]at this;simp at this;omega)
        have eT:((t2.len:Nat):Int)=(t.len:Int)+1:=by omega
        have iE:wrap64 ((t.len:Int)+1)=(t.len:Int)+1:=B8z (by rw[fK.out];have:=I.len;omega);go_wp2_with fail;obtain⟨W,hW⟩:∃W,W=bM.drew:=⟨_,rfl⟩;have bn:Below bM.heap.size bM W:=by rw[hW];exact (Below.refl _ _).drew
        have aB:=aB.below bn aB.lt;have aC:=aC.below bn aC.lt;have In:=In.up bn;have aG:=aG.up bn;have aE:=Ch aE bn;have aF:=Ch aF bn;have aI:=(aI.below bn).more bn.size;clear bn;refine F2 (fun X=>Bk X gC 34 [.int .i64 (E:Int),.pointer aN,.int .i64 0,.map aQ]∧Bk X gD 34 [.int .i64 (i:Int),.pointer ap,.int .i64 0,.map mb]) (by kernel_rfl) ?_;rw[←hW];clear hW;refine C6 (A:=?jP) [0,1,2,3,4,6] (by kernel_rfl) (by kernel_rfl) rfl (by kernel_rfl) (by kernel_rfl) ⟨aB,aC⟩ (h:=fun X hX=>?iF) (hr:=?jQ);case iF=>
         have f1:E5 X ⟨gC,0,none⟩ 4=some [.int .i64 (E:Int),.pointer aN,.int .i64 0,.map aQ]:=hX.1.rows;have f2:E5 X ⟨gD,0,none⟩ 4=some [.int .i64 (i:Int),.pointer ap,.int .i64 0,.map mb]:=hX.2.rows;simp only[pick,List.getElem?_cons_zero,List.getElem?_cons_succ];repeat (go_big_quiet_step (fail))
         refine wpQuiet_nil ?_;rfl
        refine C4 5 (by kernel_rfl) (by rfl) (by kernel_rfl) (fun Q' hQ'=>?_);dsimp only[E4];have aD:=Lib.hid hQ';clear hQ';go_wp2_with fail;refine (Og aG (h1 201) aL fL).mono ?_;rintro x wn ⟨kv,rfl,bH,bn⟩;have aB:=aB.below bn aB.lt;have aC:=aC.below bn aC.lt;have In:=In.up bn;have aG:=aG.up bn;have aE:=Ch aE bn;have aF:=Ch aF bn;have aI:=(aI.below bn).more bn.size;rw[aV]at bH;obtain⟨Ak,ck,rfl,_,-⟩:=bH.form;rw[←bI.out]at bH ⊢;clear bn;go_wp2_with fail;refine aD.out _ _ ⟨aB,aC⟩ ?_;clear aD;refine C4 7 (by kernel_rfl) (by rfl) (by kernel_rfl) (fun Q' hQ'=>?_);dsimp only[E4];have aD:=Lib.hid hQ';clear hQ';go_wp2_with fail;refine (Me _ _ more _ ((bH.hs).less (Nat.zero_le _)) aI).mono ?_;rintro x wn ⟨rfl,bn⟩;have aB:=aB.below bn aB.lt;have aC:=aC.below bn aC.lt;have In:=In.up bn;have aG:=aG.up bn;have aE:=Ch aE bn;have aF:=Ch aF bn;have aI:=(aI.below bn).more bn.size;clear bn;go_wp2_with fail;refine aD.out _ _ ⟨aB,aC⟩ ?_;clear aD;refine C6 (A:=?jR) [8,9,10,13] (by kernel_rfl) (by kernel_rfl) rfl (by kernel_rfl) (by kernel_rfl) ⟨aB,aC⟩ (h:=fun X hX=>?iG) (hr:=?jS);case iG=>
         have f1:E5 X ⟨gC,0,none⟩ 4=some [.int .i64 (E:Int),.pointer aN,.int .i64 0,.map aQ]:=hX.1.rows;have f2:E5 X ⟨gD,0,none⟩ 4=some [.int .i64 (i:Int),.pointer ap,.int .i64 0,.map mb]:=hX.2.rows;simp only[List.append_eq,List.nil_append,List.cons_append,pick,List.getElem?_cons_zero,List.getElem?_cons_succ];repeat (go_big_quiet_step (fail))
         refine wpQuiet_nil ?_;rfl
        refine C4 11 (by kernel_rfl) (by rfl) (by kernel_rfl) (fun Q' hQ'=>?_);dsimp only[E4];have aD:=Lib.hid hQ';clear hQ';go_wp2_with fail;refine (Mb _ _ _ _ _).mono ?_;rintro x wn ⟨rfl,bn⟩;have aB:=aB.below bn aB.lt;have aC:=aC.below bn aC.lt;have In:=In.up bn;have aG:=aG.up bn;have aE:=Ch aE bn;have aF:=Ch aF bn;have aI:=(aI.below bn).more bn.size;clear bn;go_wp2_with fail;refine aD.out _ _ ⟨aB,aC⟩ ?_;clear aD;refine C4 12 (by kernel_rfl) (by rfl) (by kernel_rfl) (fun Q' hQ'=>?_);dsimp only[E4];have aD:=Lib.hid hQ';clear hQ';go_wp2_with fail;refine (Df t2 (.pointer aN) 0 _ (A5g aG cV)).mono ?_;rintro x wn ⟨rfl,bn⟩;have aB:=aB.below bn aB.lt;have aC:=aC.below bn aC.lt;have In:=In.up bn;have aG:=aG.up bn;have aE:=Ch aE bn;have aF:=Ch aF bn;have aI:=(aI.below bn).more bn.size;rw[eT];clear bn;go_wp2_with fail;refine aD.out _ _ ⟨aB,aC⟩ ?_;clear aD;refine C6 (A:=?jT) [14,15,16,17,18,19,20] (by kernel_rfl) (by kernel_rfl) rfl (by kernel_rfl) (by kernel_rfl) ⟨aB,aC⟩ (h:=fun X hX=>?iH) (hr:=?jU);case iH=>
         have f1:E5 X ⟨gC,0,none⟩ 4=some [.int .i64 (E:Int),.pointer aN,.int .i64 0,.map aQ]:=hX.1.rows;have f2:E5 X ⟨gD,0,none⟩ 4=some [.int .i64 (i:Int),.pointer ap,.int .i64 0,.map mb]:=hX.2.rows;simp only[List.append_eq,List.nil_append,List.cons_append,pick,List.getElem?_cons_zero,List.getElem?_cons_succ];repeat (go_big_quiet_step (fail))
         refine wpQuiet_nil ?_;rfl
        refine C6 (A:=?jV) [21,23] (by kernel_rfl) (by kernel_rfl) rfl (by kernel_rfl) (by kernel_rfl) ⟨aB,aC⟩ (h:=fun X hX=>?iI) (hr:=?jW);case iI=>
         have f1:E5 X ⟨gC,0,none⟩ 4=some [.int .i64 (E:Int),.pointer aN,.int .i64 0,.map aQ]:=hX.1.rows;have f2:E5 X ⟨gD,0,none⟩ 4=some [.int .i64 (i:Int),.pointer ap,.int .i64 0,.map mb]:=hX.2.rows;simp only[List.append_eq,List.nil_append,List.cons_append,pick,List.getElem?_cons_zero,List.getElem?_cons_succ];repeat (go_big_quiet_step (fail))
         refine wpQuiet_nil ?_;rfl
        refine A5m 22 (by kernel_rfl) (by rfl) (by kernel_rfl) ⟨aB,aC⟩ ?_;simp only[Act.put,List.setIfInBounds_toArray,List.set_cons_succ,List.set_cons_zero];refine A5m 24 (by kernel_rfl) (by rfl) (by kernel_rfl) ⟨aB,aC⟩ ?_;simp only[Act.put,List.setIfInBounds_toArray,List.set_cons_succ,List.set_cons_zero];refine C6 (A:=?iJ) [25,26,27] (by kernel_rfl) (by kernel_rfl) rfl (by kernel_rfl) (by kernel_rfl) ⟨aB,aC⟩ (h:=fun X hX=>?eU) (hr:=?iK);case eU=>
         have f1:E5 X ⟨gC,0,none⟩ 4=some [.int .i64 (E:Int),.pointer aN,.int .i64 0,.map aQ]:=hX.1.rows;have f2:E5 X ⟨gD,0,none⟩ 4=some [.int .i64 (i:Int),.pointer ap,.int .i64 0,.map mb]:=hX.2.rows;simp only[List.append_eq,List.nil_append,List.cons_append,pick,List.getElem?_cons_zero,List.getElem?_cons_succ];repeat (go_big_quiet_step (fail))
         refine wpQuiet_nil ?_;rfl
        have c6:=In.k6.at_ (i:=0) rfl;have f6:=In.k6.frozen 0;refine C4 28 (by kernel_rfl) (by rfl) (by kernel_rfl) (fun Q' hQ'=>?_);dsimp only[E4];have aD:=Lib.hid hQ';clear hQ';go_wp2_with fail;refine aD.out _ _ ⟨aB.far (p:=⟨w.heap.size,0,none⟩) (by simp;omega) _,aC.far (p:=⟨w.heap.size,0,none⟩) (by simp;omega) _⟩ ?_;clear aD;refine I9 (by kernel_rfl) ?_;go_wp2_with fail;exact Zm rfl [D2,D1] _ (fun D' hD'=>by
         have hk:=KeepsOthers.setCell wn ⟨w.heap.size,0,none⟩ (.bool true);rcases List.mem_cons.1 hD' with rfl | hD'
         ·exact ⟨hk.same _ _ aF rfl,bX⟩
         ·obtain rfl:D'=D1:=by simpa using hD'
          exact ⟨hk.same _ _ aE rfl,bY⟩) (by simp[bS]) (In.k6.set_ 0 _) (In.below.setCell (p:=⟨w.heap.size,0,none⟩) (Nat.le_refl _) _)
   case cK=>rintro D cc aO V gO eM h dM;exact h.elim
end
end Go.Proofs.YtlegpkdighoflaaGreat
