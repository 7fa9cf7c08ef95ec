/- A part of the proof of AuditTells. -/
import Derived.Test.YtmllnpokbbabhaaGreatTbp
set_option linter.unusedVariables false
set_option linter.unusedSimpArgs false
set_option maxRecDepth 100000
set_option maxHeartbeats 40000000
namespace Go.Proofs.YtmllnpokbbabhaaGreat
open Go Go.RowKit Sh
section
attribute [local go_sem] Oper.semAt_some
theorem A8g {A B:World} {row:Option Nat} {base sz m:Nat} {T:TypeId} {v:Value} {xs:List Value} (h:A.ownsRow base T sz v m xs) (hg:A.grownBy B row) (hr:∀r,row=some r→∃o:Obj,A.heap[r]?=some o∧o.isCells=false):B.ownsRow base T sz v m xs:=by
 refine World.ownsRow.kept h hg ?_;cases hv:v.ownBlock with
 | none=>exact .inl rfl
 | some k=>
  refine .inr fun e=>?_;obtain⟨o,ho,hc⟩:=hr k e.symm;obtain⟨c1,f1,h1⟩:=A9j h _ hv;rw[h1]at ho;injection ho with ho;subst ho;cases hc
theorem Kc.obj {A B:World} {row:Option Nat} {lo base:Nat} {v:Value} {L:List En} (h:Kc A lo base v L) (hg:A.grownBy B row) (hb:∀r,row=some r→base≤r) (hr:∀r,row=some r→∃o:Obj,A.heap[r]?=some o∧o.isCells=false):Kc B lo base v L:=by
 obtain⟨h1,h2,R,h3,h4⟩:=h;have hB:Below lo A B:=⟨hg.os,hg.tape,hg.output,hg.size,fun k hk=>hg.block k (by omega) (fun e=>by have:=hb k e.symm;omega)⟩;exact ⟨h1,Nat.le_trans h2 hg.size,R,Ck.map (f:=fun {r q} h=>⟨h.1,h.2.1,h.2.2.1,h.2.2.2.elim (fun h=>.inl (h.below hB)) fun h=>.inr ⟨h.1,A8g h.2 hg hr⟩⟩) h3,A8g h4 hg hr⟩
theorem B9n {w:World} {base sz n go:Nat} {T T':TypeId} {v:Value} {xs cs:List Value} (h:w.ownsRow base T sz v n xs) (G:Bk w go T' cs) (hT:T'≠T):v.ownBlock=none∨v.ownBlock≠some go:=by
 cases hv:v.ownBlock with
 | none=>exact .inl rfl
 | some k=>
  refine .inr fun e=>?_;injection e with e;subst e;obtain⟨c1,f1,h1⟩:=A9j h _ hv;unfold Bk at G;rw[G]at h1;injection h1 with h1;injection h1 with _ h1 _;exact hT h1
theorem B5j (w:World) (g o:Nat) (u:Value):w.grownBy (w.setCell ⟨g,o,none⟩ u) (some g):=⟨rfl,rfl,rfl,by simp,fun k' _ hk'=>Below.heap_setCell _ ⟨g,o,none⟩ _ k' (fun e=>hk' (by rw[e]))⟩
theorem Kc.setT {w:World} {lo base go:Nat} {T:TypeId} {cs:List Value} {v:Value} {L:List En} (h:Kc w lo base v L) (G:Bk w go T cs) (h1:T≠73) (h2:T≠40) (hlo:lo≤go) (u:Value):Kc (w.setCell ⟨go,0,none⟩ u) lo base v L:=by
 obtain⟨g1,g2,R,g3,g4⟩:=h;have hg:=B5j w go 0 u;have hB:Below lo w (w.setCell ⟨go,0,none⟩ u):=⟨hg.os,hg.tape,hg.output,hg.size,fun k hk=>hg.block k (by omega) (fun e=>by injection e with e;omega)⟩;exact ⟨g1,Nat.le_trans g2 hg.size,R,Ck.map (f:=fun {r q} h=>⟨h.1,h.2.1,h.2.2.1,h.2.2.2.elim (fun h=>.inl (h.below hB)) fun h=>.inr ⟨h.1,World.ownsRow.kept h.2 hg (B9n h.2 G h2)⟩⟩) g3,World.ownsRow.kept g4 hg (B9n g4 G h1)⟩
def LsI (w:World) (go z:Nat) (pre:List KV) (W:World):Prop:=∃v,Bk W go 58 [v]∧Kc W w.heap.size w.heap.size v (pre.map KV.en)∧Below w.heap.size w W∧go<z∧∀g,v.ownBlock=some g→g<z
theorem C1m (w:World) (go z:Nat) {B:Nat} (hB:w.heap.size≤B):OwnFrom B (LsI w go z):=by
 intro s X Y aB hs hg hr;obtain⟨v,h1,h2,h3,h4,h5⟩:=hs;have aA:∀r,aB=some r→∃o:Obj,X.heap[r]?=some o∧o.isCells=false:=fun r e=>(hr r e).2;exact ⟨v,Bv h1 hg aA,h2.obj hg (fun r e=>Nat.le_trans hB (hr r e).1) aA,h3.grown hg h3.size (fun k e=>Nat.le_trans hB (hr k e).1),h4,h5⟩
theorem D5w {w:World} {go z:Nat} {pre:List KV} {W W':World} (h:LsI w go z pre W) (hb:Below W.heap.size W W'):LsI w go z pre W':=by
 obtain⟨v,h1,h2,h3,h4,h5⟩:=h;exact ⟨v,h1.bl hb,h2.below hb,C3 h3 hb h3.size,h4,h5⟩
attribute [local go_sem ↓ high] El
theorem B2p (dv:Value) (e N:Nat) (L:List En) (w:World) (hD:DirIs w dv e L N) (hL:L.length≤1000000) (hks:∀x,(lookE L x).length≤1000000) :
 Calls Tryz.prog 22 #[dv] w fun x w'=>∃v,x=.returned v∧Es w' w'.heap.size v L∧Below w.heap.size w w':=by
 obtain⟨ap,mb,rfl⟩:=hD.form;obtain⟨t,ht⟩:=hD.tree;refine (callsIn_wide (n:=9)).1 ?_;refine callsIn_of_wp_marks Tryz.func22 rfl trivial ?_ rfl;simp only[Tryz.ntmps22,List.size_toArray,List.length_cons,List.length_nil,Nat.reduceAdd,Nat.reduceSub,Array.replicate_succ,Array.replicate_zero,List.push_toArray,List.append_toArray,Nw];refine wpIn_wide.2 ?_;obtain⟨w1,aM⟩:=D9 ((w.alloc (Obj.cells #[.int .i64 (e:Int),.pointer ap,.int .i64 0,.map mb] 34)).alloc (Obj.cells #[.slice none 0 0] 58));have aN:w1=Z0 w [(34,[.int .i64 (e:Int),.pointer ap,.int .i64 0,.map mb]),(58,[.slice none 0 0])]:=aM;have B1:=BL' aN;have D1:=KZ' aN rfl;have G1:=KL' 1 aN rfl;have r1:C4 w1 ⟨w.heap.size,0,none⟩ 4=some [.int .i64 (e:Int),.pointer ap,.int .i64 0,.map mb]:=D1.rows;rw[aM]at r1;clear aN;go_wp2_with fail;rw[←aM];clear aM r1;refine (callsIn_wide.1 (D1l _ _ _ _ w1 5)).mono ?_;rintro x w4 ⟨rfl,aQ⟩;have T4:Bk w4 w1.heap.size 34 [.int .i64 (e:Int),.pointer ap,.int .i64 0,.map mb]:=by rw[aQ];exact Bk.new w1 _ _
 have aT:=BA' aQ;have G4:=G1.bl aT;have B4:=X4 B1 aT;clear aQ G1 B1 D1;go_wp2_with fail;have aE:=B4.size;refine (wpIn_wide (n:=5)).1 ?_;refine D1z (F:=Fence.wide) (n:=5) rfl (by omega) (gf:=96) (lb:=#[.pointer (some ⟨w1.heap.size,0,none⟩)]) rfl trivial (enters_of Tryz.func96 (by kernel_rfl) rfl)
  (B9i w e N ap mb L t hD ht hks (5-1) w4 w1.heap.size B4 T4) (fun h k=>E5n h k) (E7a aE) (Below.refl _ _) (fun _=>rfl)
  (LsI w (w.heap.size+1)) (fun _ _ _=>False) (fun z=>C1m _ _ z aE) (fun _=>ownFrom_pure _ _)
  ⟨w4.heap.size,Nat.le_refl _,_,G4,Kc.nil _ _ _ (Nat.le_refl _) aE,B4,G4.lt,fun g h=>by cases h⟩
  (fun z aC Z x a' X=>(aC++[x]).map KV.en <+: L∧LsI w (w.heap.size+1) z aC X∧OwnK X w.heap.size x.v x.ks∧∃gk:Nat,Bk X gk 40 (c8 x.id)∧a'={ tmps:=(.agg #[.int .i64 (e:Int),.pointer ap,.int .i64 0,.map mb] :: .pointer (some ⟨w.heap.size,0,none⟩) :: .slice none 0 0 :: .pointer (some ⟨w.heap.size+1,0,none⟩) :: .pointer (some ⟨gk,0,none⟩)::x.v :: .agg #[.int .i64 (e:Int),.pointer ap,.int .i64 0,.map mb] :: .func (.func 96) #[] #[.pointer (some ⟨w1.heap.size,0,none⟩)]::A8 x.id::x.v::undef::undef::undef::undef::undef::undef::undef::[]).toArray,defers:=[] })
  (fun z aC Z x a'=>by
   intro s X Y aU hs hg hr;obtain⟨h0,h1,h2,gk,h3,h5⟩:=hs;have aV:∀r,aU=some r→∃o:Obj,X.heap[r]?=some o∧o.isCells=false:=fun r e=>(hr r e).2;exact ⟨h0,C1m _ _ z aE aC X Y aU h1 hg hr,⟨h2.1,A8g h2.2 hg aV⟩,gk,Bv h3 hg aV,h5⟩) ?aB ?aF ?aG ?aH
 case aB=>
  rintro lp z aC ⟨k,ks,v,hk⟩ V K hI hz aW hK;simp only[D9l];have bC:F9 (V.alloc (Obj.cells (c8 (z8 32)).toArray 40)) ⟨V.heap.size,0,none⟩ 32=true:=(Bk.new V _ _).can (by simp);gi_wp2
  obtain⟨V1,aR⟩:=D9 (C2 (V.alloc (Obj.cells (c8 (z8 32)).toArray 40)) ⟨V.heap.size,0,none⟩ (c8 k));rw[←aR];have aD:Below V.heap.size V V1:=by rw[aR];exact C0 (U7 _ _) (Nat.le_refl _) _
  have K1:Bk V1 V.heap.size 40 (c8 k):=by rw[aR];exact Bk.fresh V _ (by simp[hk])
  have bD:w.heap.size≤V.heap.size:=by obtain⟨_,_,h,_,_⟩:=hI;exact h.2.1
  exact hK _ _ ((Hd aD).from _) ⟨aD.mono bD,(Hd aD).from _,E0a aD⟩ (Cs.ext aD) ⟨aW.2,D5w hI aD,aW.1.below aD (Nat.le_refl _),V.heap.size,K1,rfl⟩
 case aF=>
  rintro lp z aC ⟨k,ks,xv,hk⟩ a' Z V hl bT _ bU ⟨aX,⟨v,G,O,Bw,bE,aY⟩,OK,gk,Kk,rfl⟩ bX;have cg:V.cell? ⟨w.heap.size+1,0,none⟩=some v:=G.at_ rfl;have rk:=Kk.row8 hk;have aI:(k,ks)∈L:=by
   obtain⟨r,hr⟩:=aX;rw[←hr];simp[KV.en]
  have aJ:=hD.okE.one _ aI;simp only at aJ;obtain⟨es,aO⟩:=D9 (aC.map KV.en);have bY:es.length≤1000000:=by rw[aO];simp;omega
  rw[←aO]at O;have bF:=Lib.hid aO;clear aO aI aX;replace OK:OwnK V w.heap.size xv ks:=OK;obtain⟨Ax,cx,rfl,-,-⟩:=OK.form;have bG:Ut V w.heap.size w.heap.size ⟨k,⟨Ax,ks.length,cx⟩⟩ (k,ks):=⟨rfl,hk,aJ,.inr OK⟩;obtain⟨A,c,rfl,-,-⟩:=O.form;have bZ:(Rw.cells ⟨k,⟨Ax,ks.length,cx⟩⟩).length=33:=Rw.len hk;have bH:(Value.slice A es.length c).ownBlock≠some (w.heap.size+1):=by
   obtain⟨_,_,_,_,hO⟩:=O;rcases B9n hO G (by decide) with h | h
   ·rw[h];intro e;cases e
   ·exact h
  have aZ:Kd2 V (Value.slice A es.length c).ownBlock 73:=by obtain⟨_,_,_,_,hO⟩:=O;exact A9j hO
  gi_wp2_with (gi_at_builtin;refine D9k (Fp lp) rfl (by intro c h;cases h) (fun Q' hQ'=>?_);refine F0z rfl _ _ rfl rfl O ⟨k,⟨Ax,ks.length,cx⟩⟩ (k,ks) bG _ rfl rfl rfl (by omega) ?_;intro A3 c3 w3 bI bJ bK bL aK bM;refine hQ' _ _ ?_;have G3:=G.grown aK (fun e=>bH e.symm);have f3:=G3.frozen 0;have cA:=G3.at_ (i:=0) rfl)
  have aK:V.grownBy w3 (Value.slice A es.length c).ownBlock:=aK;have bA:=bK.setT G3 (by decide) (by decide) (Nat.le_succ _) (.slice A3 (es.length+1) c3);have bB:Below w.heap.size V (w3.setCell ⟨w.heap.size+1,0,none⟩ (.slice A3 (es.length+1) c3)):=bL.setCell (p:=⟨w.heap.size+1,0,none⟩) (by simp) _;have aL:=KeepsOthers.of_grownBy aK (fun j o e ho=>by
   obtain⟨c1,f1,h1⟩:=aZ j e;rw[h1]at ho;injection ho with ho;subst ho;rfl)
  have aA:∀(k' T:Nat) (cs:List Value),k'≠w.heap.size+1→(∀g,(Value.slice A es.length c).ownBlock=some g→k'≠g)→Bk V k' T cs→Bk (w3.setCell ⟨w.heap.size+1,0,none⟩ (.slice A3 (es.length+1) c3)) k' T cs:=fun k' T cs n1 n2 h=>(h.grown aK (fun e=>n2 _ e.symm rfl)).far (p:=⟨w.heap.size+1,0,none⟩) n1 _
  have bN:KT V (w3.setCell ⟨w.heap.size+1,0,none⟩ (.slice A3 (es.length+1) c3)):=fun k' T cs hT h=>aA k' T cs
   (fun e=>by
    subst e;unfold Bk at h G;rw[h]at G;injection G with G;injection G with _ G _;subst G;revert hT;decide)
   (fun g hv e=>by
    subst e;obtain⟨c1,f1,h1⟩:=aZ _ hv;unfold Bk at h;rw[h]at h1;injection h1 with h1;injection h1 with _ h1 _;subst h1;revert hT;decide) h
  have bO:Cs z V (w3.setCell ⟨w.heap.size+1,0,none⟩ (.slice A3 (es.length+1) c3)):=fun k' T cs hz' h=>aA k' T cs (by omega) (fun g hv e=>by have:=aY g hv;omega) h;have bP:=(aL.trans (KeepsOthers.setCell _ ⟨w.heap.size+1,0,none⟩ (.slice A3 (es.length+1) c3))).from w4.heap.size;have aS:=(aL.trans (KeepsOthers.setCell _ ⟨w.heap.size+1,0,none⟩ (.slice A3 (es.length+1) c3))).from (w4.heap.size+1+1);refine ⟨bP,⟨bB,aS,bN⟩,bO,_,Nat.le_refl _,_,G3.set_ 0 _,?_,Bw.trans bB,(G3.set_ 0 (.slice A3 (es.length+1) c3)).lt,?_⟩
  ·rw[List.map_append,←bF.out];exact bA
  ·intro g hv;exact (bA.lt hv).2
 case aG=>rintro D z ys V bQ hS ⟨v,G,O,Bw,bE,aY⟩ aP;have cg:V.cell? ⟨w.heap.size+1,0,none⟩=some v:=G.at_ rfl;rw[hS]at O;obtain⟨A,c,rfl,-,-⟩:=O.form;dsimp only;go_wp2_with fail;refine ⟨by simp,.inl ⟨_,_,rfl,run_takeDeferred aP,?_⟩⟩;have bR:=grownBy_putObj' V D (.deferred none);have hO:=O.obj bR (fun r e=>by injection e with e;omega) (fun r e=>by injection e with e;subst e;exact ⟨_,aP,rfl⟩);refine ⟨.slice A L.length c,by simp[results,Tryz.f22],⟨_,rfl,hO.es,Bw.trans (belowK_b (w:=w4) aE V D _ _ bQ aP rfl rfl)⟩⟩
 case aH=>rintro D cc aC V cB bS h aP;exact h.elim
end
section
structure TlI (w wr : World) (gD : Nat) (ov gv ov2 gv2 : Value) (bs bs2 : List (List UV)) (k : Nat) (ap mb : Option Nat × Option Addr) (L : List En) (N : Nat) : Prop where
 kd:Bk wr gD 34 [.int .i64 (k:Int),.pointer ap.2,.int .i64 0,.map mb.1]
 dir:DirIs wr (.agg #[.int .i64 (k:Int),.pointer ap.2,.int .i64 0,.map mb.1]) k L N
 bat:BatchIs wr ov gv bs
 bat2:BatchIs wr ov2 gv2 bs2
 hN:N≤12*k
 len:L.length≤12*k
 lks:∀x,(lookE L x).length≤12*k
 below:Below w.heap.size w wr
 hg:w.heap.size≤gD
section
variable {w wr w' : World} {gD : Nat} {ov gv ov2 gv2 : Value} {bs bs2 : List (List UV)} {k : Nat} {ap mb ap' mb' : Option Nat × Option Addr} {L L' : List En} {N N' : Nat}
theorem TlI.up (h:TlI w wr gD ov gv ov2 gv2 bs bs2 k ap mb L N) (hb:Below wr.heap.size wr w'):TlI w w' gD ov gv ov2 gv2 bs bs2 k ap mb L N:=
 ⟨h.kd.below hb h.kd.lt,h.dir.up hb,h.bat.up hb,h.bat2.up hb,h.hN,h.len,h.lks,C3 h.below hb h.below.size,h.hg⟩
theorem TlI.next (h:TlI w wr gD ov gv ov2 gv2 bs bs2 k ap mb L N) (hd:DirIs wr (.agg #[.int .i64 ((k+1:Nat):Int),.pointer ap'.2,.int .i64 0,.map mb'.1]) (k+1) L' N') (hN:N'≤12*(k+1)) (hl:L'.length≤12*(k+1)) (hk:∀x,(lookE L' x).length≤12*(k+1)) :
 TlI w (C2 wr ⟨gD,0,none⟩ [.int .i64 ((k+1:Nat):Int),.pointer ap'.2,.int .i64 0,.map mb'.1]) gD ov gv ov2 gv2 bs bs2 (k+1) ap' mb' L' N':=
 ⟨h.kd.puts (by simp),hd.put h.kd (D2v _ _ _ _) (by decide),h.bat.put h.kd (by decide) (by decide) (by decide) (by decide),h.bat2.put h.kd (by decide) (by decide) (by decide) (by decide),hN,hl,hk,C0 h.below h.hg _,h.hg⟩
end
theorem D3g {us:List UV} {L:List En} {S:List (List UInt8)} (hnd:S.Nodup) (hm:∀x,x∈S↔moreE us L x≠[]) {c:Nat} (hc:us.length≤c):S.length≤c:=by
 have aA:S ⊆ (Ee us L).map (·.id):=fun x hx=>by
  cases hq:moreE us L x with
  | nil=>exact absurd hq ((hm x).1 hx)
  | cons y l=>
   have hy:y∈moreE us L x:=by rw[hq];simp
   exact List.mem_map.2 ⟨y,(List.mem_filter.1 hy).1,Mu y hy⟩
 have h1:=Hf hnd aA;have h2:=Cv us L;rw[List.length_map]at h1;omega
theorem C8q (w:World):(zeroValue 3).run Tryz.prog w=.ok (.int .i64 0) w:=by kernel_rfl
theorem C5h {w w':World} {b:Nat} (hg:w.grownBy w' (some b)) (hb:b<w.heap.size):Below b w w':=⟨hg.os,hg.tape,hg.output,hg.size,fun k hk=>hg.block k (by omega) (fun e=>by injection e with e;omega)⟩
theorem HsK.parts {w:World} {s:Sv} {ks:List (List UInt8)} (h:HsK w s.v ks):s.n=ks.length∧Rd w 0 w.heap.size s.a (c8 ks.flatten)∧∀k∈ks,k.length=32:=by
 obtain⟨⟨h0,A,c,e,h1,h2,h3⟩,_⟩:=h;unfold Sv.v at e;injection e with e1 e2 e3;exact ⟨e2,by rw[e1];exact h3,h0⟩
attribute [local go_sem ↓ high] El Qw
theorem auditTells_any (v v2:Value) (la lb:List AV) (w:World) (hv:As w w.heap.size v la) (hv2:As w w.heap.size v2 lb):Calls Tryz.prog 5 #[v,v2] w fun x w'=>x=.returned (.bool true)∧Below w.heap.size w w':=by
 have bL:∀ {w w':World} {v:Value} {l:List AV},As w w.heap.size v l→Below w.heap.size w w'→As w' w'.heap.size v l:=fun {w w' v l} h b=>by
  obtain⟨A,c,h1,h2,h3,h4⟩:=h;exact ⟨A,c,h1,h2,h3,(h4.below b).more b.size⟩
 have HA:=Lib.hid hv;have HB:=Lib.hid hv2;clear hv hv2;go_enter Tryz.func5,Tryz.ntmps5;go_wp2_with fail;refine (B8u w).mono ?_;rintro x w1 ⟨rfl,b1⟩;go_wp2_with fail;refine (Zg v la w1 (bL HA.out b1)).mono ?_;rintro x w2 ⟨ov,gv,bs,rfl,hb,hbl,hbb,-,b2⟩;have B2:=X4 b1 b2;go_wp2_with fail;refine (Zg v2 lb w2 (bL HB.out B2)).mono ?_;rintro x w3 ⟨ov2,gv2,aK,rfl,bD,aG,hbb2,-,b3⟩;have B3:=X4 B2 b3;have cJ:=hb.up b3;obtain⟨⟨Ao,co,rfl⟩,⟨Ag,cg,rfl⟩⟩:=cJ.form;obtain⟨⟨Ap,cp,rfl⟩,⟨Ah,ch,rfl⟩⟩:=bD.form;obtain⟨n,hn⟩:=D9 (bs.length);obtain⟨m,hm⟩:=D9 (aK.length);rw[←hn]at cJ hbl ⊢;rw[←hm]at bD aG ⊢;have HN:=Lib.hid hn;have HM:=Lib.hid hm;obtain⟨w4,cK⟩:=D9 (w3.alloc (Obj.cells #[.int .i64 0,.pointer none,.int .i64 0,.map none] 34));have b4:=BA' cK;have I0:TlI w w4 w3.heap.size (.slice Ao n co) (.slice Ag n cg) (.slice Ap m cp) (.slice Ah m ch) bs aK 0 (none,none) (none,none) [] 0:=
  ⟨by rw[cK];exact Bk.new w3 _ _,DirIs.nil w4,cJ.up b4,bD.up b4,Nat.le_refl _,Nat.le_refl _,fun x=>Nat.le_refl _,C3 B3 b4 B3.size,B3.size⟩
 clear hb cJ bD b1 b2 B2 b3 B3 b4 HA HB hn hm;go_wp2_with fail;rw[←cK];clear cK;generalize w3.heap.size=gD at *;go_loopw [40] (fun x wr=>∃(i:Nat) (ap mb:Option Nat×Option Addr) (L:List En) (N:Nat),i≤n∧x=.int .i64 (i:Int)∧TlI w wr gD (.slice Ao n co) (.slice Ag n cg) (.slice Ap m cp) (.slice Ah m ch) bs aK i ap mb L N) (fun x _=>n-(intOf x).toNat)
 case atStart=>exact ⟨0,(none,none),(none,none),[],0,Nat.zero_le _,rfl,I0⟩
 case round=>
  clear I0;obtain⟨i,ap,mb,L,N,hi,rfl,I⟩:=hrel;by_cases hlt:i<n
  ·have hd:decide ((i:Int)<(n:Int))=true:=decide_eq_true (by omega);have dG:=decide_eq_true hlt;obtain⟨us,aX⟩:∃us,bs[i]?=some us:=⟨_,List.getElem?_eq_getElem (by rw[←HN.out];exact hlt)⟩;obtain⟨g1,g2,uv,bv,rfl,rfl,iK,iL,q1,q2,hU,hG,dI⟩:=I.bat.at_ aX;obtain⟨Au,cu,rfl⟩:=hU.form;have aG:=hbb us (List.mem_of_getElem? aX);obtain⟨iM,dJ,aH⟩:=Oe I.dir.okE hU.allOk;have aD:=I.lks;have dK:=I.len;have hN:=I.hN;have aE:C4 wr ⟨gD,0,none⟩ 4=some [.int .i64 (i:Int),.pointer ap.2,.int .i64 0,.map mb.1]:=I.kd.rows;have HU:=Lib.hid hU;have HI:=Lib.hid I;have iN:i≤13:=by omega
   clear aX hU hG dI q2 I;go_wp2_with fail;refine (Uf _ i L N us _ wr HI.out.dir HU.out (by omega) (by omega) (by omega) (fun x=>by have:=aD x;omega)).mono ?_;rintro x w5 ⟨iO,rfl,aP,b5⟩;obtain⟨ap',mb',rfl⟩:=aP.form;have I5:=HI.out.up b5;have aC:F9 w5 ⟨gD,0,none⟩ 4=true:=I5.kd.can (by simp);have I6:=Lib.hid (I5.next (ap':=(none,ap')) (mb':=(mb',none)) aP (by omega) (by omega) (fun x=>by have:=aH x;have:=aD x;omega));clear HI HU aP b5 I5 aD aH aE q1;go_wp2_with fail;go_roundw;case rel=>exact ⟨i+1,(none,ap'),(mb',none),_,_,by omega,by simp,I6.out⟩
   case measure=>simp only[intOf];omega
  ·have hd:decide ((i:Int)<(n:Int))=false:=decide_eq_false (by omega);have dG:=decide_eq_false hlt;have iP:i≤13:=by omega
   have HI:=Lib.hid I;clear hlt hi I;go_wp2_with fail;go_loopw [50] (fun x wr=>∃(j k:Nat) (ap mb:Option Nat×Option Addr) (L:List En) (N:Nat),j≤m∧x=.int .i64 (j:Int)∧k≤13+j∧TlI w wr gD (.slice Ao n co) (.slice Ag n cg) (.slice Ap m cp) (.slice Ah m ch) bs aK k ap mb L N) (fun x _=>m-(intOf x).toNat)
   case atStart=>exact ⟨0,i,ap,mb,L,N,Nat.zero_le _,rfl,by omega,HI.out⟩
   case round=>
    clear HI;obtain⟨j,k,ap,mb,L,N,hj,rfl,kL,I⟩:=hrel;by_cases hlt:j<m
    ·have hd:decide ((j:Int)<(m:Int))=true:=decide_eq_true (by omega);have dG:=decide_eq_true hlt;obtain⟨us,aX⟩:∃us,aK[j]?=some us:=⟨_,List.getElem?_eq_getElem (by rw[←HM.out];exact hlt)⟩;obtain⟨g1,g2,uv,bv,rfl,rfl,iK,iL,q1,q2,hU,hG,dI⟩:=I.bat2.at_ aX;obtain⟨Au,cu,rfl⟩:=hU.form;have aG:=hbb2 us (List.mem_of_getElem? aX);have cL:∀u∈us,u.Ok:=hU.allOk;obtain⟨iM,dJ,aH⟩:=Oe I.dir.okE hU.allOk;have aD:=I.lks;have dK:=I.len;have hN:=I.hN;have iQ:k≤26:=by omega
     have aE:C4 wr ⟨gD,0,none⟩ 4=some [.int .i64 (k:Int),.pointer ap.2,.int .i64 0,.map mb.1]:=I.kd.rows;have HU:=Lib.hid hU;have HI:=Lib.hid I;obtain⟨q,hq⟩:=D9 (us.length);rw[←hq]at q1 HU;have HQ:=Lib.hid hq;clear aX hU hG dI q2 I hq;go_wp2_with fail;refine (Uf _ k L N us _ wr HI.out.dir HU.out (by omega) (by omega) (by omega) (fun x=>by have:=aD x;omega)).mono ?_;rintro x w5 ⟨iO,rfl,aP,b5⟩;obtain⟨k2,aQ⟩:=D9 (k+1);rw[←aQ]at aP;have eZ:=Lib.hid aQ;clear aQ;obtain⟨ap',mb',rfl⟩:=aP.form;have I5:=HI.out.up b5;have fB:=Lib.hid ((HU.out.below b5).more b5.size);have k0:=Bk.new w5 34 [.int .i64 0,.pointer none,.int .i64 0,.map none];have aC:=Nn 4 k0 (by simp);obtain⟨w6,bM⟩:=D9 (C2 (w5.alloc (Obj.cells #[.int .i64 0,.pointer none,.int .i64 0,.map none] 34)) ⟨w5.heap.size,0,none⟩ [.int .i64 (k2:Int),.pointer ap',.int .i64 0,.map mb']);have kN:Bk w6 w5.heap.size 34 [.int .i64 (k2:Int),.pointer ap',.int .i64 0,.map mb']:=by rw[bM];exact k0.puts (by simp)
     have b6:Below w5.heap.size w5 w6:=by rw[bM];exact C0 (U7 _ _) (Nat.le_refl _) _
     have I6:=I5.up b6;have dL:=aP.up b6;have fC:=Lib.hid ((fB.out.below b6).more b6.size);have r6:C4 w6 ⟨gD,0,none⟩ 4=some [.int .i64 (k:Int),.pointer ap.2,.int .i64 0,.map mb.1]:=I6.kd.rows;rw[bM]at r6;clear HI HU aP b5 I5 aE q1 k0 fB b6;go_wp2_with fail;rw[←bM];generalize w5.heap.size=gN at *;clear bM aC r6;obtain⟨t,ht⟩:=dL.tree;obtain⟨t0,cM⟩:=I6.dir.tree;have cN:=I6.dir.okE;have dM:L.length≤1000:=by omega
     have bE:∀x,(lookE L x).length≤1000:=fun x=>by have:=aD x;omega
     refine (A6w _ k N L us _ w6 t0 I6.dir cM fC.out aG dM bE).mono ?_;rintro x w7 ⟨sv,S,rfl,dO,bN,cO,aM,b7⟩;obtain⟨dQ,dS⟩:=A4a cL cN cM ht aM bN cO dM (fun x=>by have:=bE x;omega) (by omega);have cP:=Zk cL cN cM aM cO dM bE aG;obtain⟨bl,bO⟩:=D9 (Oy (t0.cut S 0).bytes (S.map fun x=>(x,lookE L x,moreE us L x)));rw[←bO]at dO dQ dS cP;have I7:=I6.up b7;have fD:=dL.up b7;have fE:=kN.bl b7;have fF:=Lib.hid dO.up;have fG:=Lib.hid dS;have fH:=Lib.hid dQ;have iR:=Lib.hid cO;have dT:=Lib.hid aM;have fI:=t0.root_length;have bF:=t.root_length;clear bO dO dQ dS bN cO aM I6 dL kN b7 fC;go_wp2_with fail;have S1:=Nq w7;have I8:=I7.up S1;have fJ:=fD.up S1;have dU:=fE.drew;have bP:=Lib.hid (fF.out.up S1);clear S1 I7 fD fE fF;refine Ij (fun W=>Bk W gD 34 [.int .i64 (k:Int),.pointer ap.2,.int .i64 0,.map mb.1]∧Bk W gN 34 [.int .i64 (k2:Int),.pointer ap',.int .i64 0,.map mb']) ?_;refine Cn (A:=?kM) [0,2,4] ⟨I8.kd,dU⟩ (fun W hW=>?iS) ?kO;case iS=>
      have f1:C4 W ⟨gD,0,none⟩ 4=some [.int .i64 (k:Int),.pointer ap.2,.int .i64 0,.map mb.1]:=hW.1.rows;have f2:C4 W ⟨gN,0,none⟩ 4=some [.int .i64 (k2:Int),.pointer ap',.int .i64 0,.map mb']:=hW.2.rows;exact Fa
     refine Q6 1 fun Q' hQ'=>?_;dsimp only[C6];have aA:=Lib.hid hQ';clear hQ';go_wp2_with fail;refine (A3b I8.dir cM).mono ?_;rintro x w9 ⟨rfl,b9⟩;have I9:=I8.up b9;have dW:=fJ.up b9;have dX:=dU.bl b9;have bQ:=Lib.hid (bP.out.up b9);clear I8 fJ dU bP b9;go_wp2_with fail;refine aA.out _ _ ⟨I9.kd,dX⟩ ?_;clear aA;refine Q6 3 fun Q' hQ'=>?_;dsimp only[C6];have aA:=Lib.hid hQ';clear hQ';go_wp2_with fail;refine (A3b dW ht).mono ?_;rintro x wa ⟨rfl,ba⟩;have Ia:=I9.up ba;have fK:=dW.up ba;have dY:=dX.bl ba;have aY:=Lib.hid (bQ.out.up ba);clear I9 dW dX bQ ba;go_wp2_with fail;refine aA.out _ _ ⟨Ia.kd,dY⟩ ?_;clear aA;refine Q6 5 fun Q' hQ'=>?_;dsimp only[C6];have aA:=Lib.hid hQ';clear hQ';go_wp2_with fail;refine (Uh t0.root t.root fI bF sv bl wa aY.out cP).mono ?_;rintro x wb ⟨rfl,bb⟩;rw[fG.out];have Ib:=Ia.up bb;have fL:=fK.up bb;have cQ:=dY.bl bb;have bR:=Lib.hid (aY.out.up bb);clear Ia fK dY aY bb fG fI bF;go_wp2_with fail;refine aA.out _ _ ⟨Ib.kd,cQ⟩ ?_;clear aA;refine Cn (A:=?kQ) [6] ⟨Ib.kd,cQ⟩ (fun W hW=>?bS) ?kS;case bS=>
      simp only[List.append_eq,Nw,pick,Se];repeat (go_big_quiet_step (fail))
      refine wpQuiet_nil ?_;rfl
     refine Gn ?_;go_wp2_with fail;refine (B9b sv bl wb bR.out cP).mono ?_;rintro x wc ⟨p,kT,e,rfl,fM,bc⟩;rw[fH.out]at fM;obtain⟨rfl,-,hgs⟩:=fM;have Ic:=Ib.up bc;have cR:=fL.up bc;have aZ:=cQ.bl bc;have iT:=@run_makeMap Tryz.prog;clear Ib fL cQ bR bc fH cP;obtain⟨wd,cS⟩:=D9 (wc.alloc (.map #[] 0));have bd:=BA' cS;have M0:MapV wd wc.heap.size 0 (fun _=>none):=by rw[cS];exact MapV.made wc
     obtain⟨A4,c4,rfl,-⟩:=hgs.form;rw[List.length_map]at hgs ⊢;obtain⟨sl,aN⟩:=D9 (S.length);have fN:sl≤12:=by rw[aN];exact D3g iR.out dT.out aG
     have iU:=Lib.hid aN;rw[←aN]at hgs ⊢;clear aN;go_wp2_with fail;rw[←cS];clear cS iT;go_loopw [77] (fun x wr=>∃(s1 s2:List (List UInt8)) (m1:List UInt8→Option Value),x=.int .i64 (s1.length:Int)∧S=s1++s2∧MapV wr wc.heap.size s1.length m1∧(∀y,m1 y=if y∈s1 then some (.int .i64 1) else none)∧Below wc.heap.size wc wr) (fun x _=>sl-(intOf x).toNat)
     case atStart=>exact ⟨[],S,_,rfl,rfl,M0,fun y=>by simp,bd⟩
     case round=>
      clear M0 bd;obtain⟨s1,s2,m1,rfl,aR,M1,cT,b1⟩:=hrel;have aI:sl=S.length:=iU.out;cases s2 with
      | nil=>
       have iV:decide (s1.length<sl)=false:=decide_eq_false (by rw[aI,aR];simp);rw[List.append_nil]at aR;subst aR;have I1:=Ic.up b1;have bT:=cR.up b1;have bU:=aZ.bl b1;have fO:C4 wr ⟨gN,0,none⟩ 4=some [.int .i64 (k2:Int),.pointer ap',.int .i64 0,.map mb']:=bU.rows;have aQ:∀x,(lookE (applyE us L) x).length≤1000000:=fun x=>by have:=aH x;have:=aD x;omega
       have dZ:=Lib.hid cT;obtain⟨L2,cU⟩:=D9 (applyE us L);rw[←cU]at bT aQ;have fP:L2.length≤1000000:=by rw[cU];omega
       have iW:=Lib.hid cU;clear cT cU aI;go_wp2_with fail;refine (B2p _ k2 _ L2 wr bT fP aQ).mono ?_;rintro y wl ⟨lv,rfl,hE,eA⟩;have b2:=b1.trans (eA.mono b1.size);obtain⟨Al,cl,rfl,-,-⟩:=hE.form;obtain⟨ln,eB⟩:=D9 (L2.length);rw[←eB]at hE fP ⊢;have iX:=Lib.hid eB;have M2:=Lib.hid (M1.below eA (Nat.le_refl _));clear eB M1 eA fO I1 bU;go_wp2_with fail;go_loopw [128] (fun x W=>∃i:Nat,x=.int .i64 (i:Int)∧i≤ln∧Below wl.heap.size wl W) (fun x _=>ln-(intOf x).toNat)
       case atStart=>exact ⟨0,rfl,Nat.zero_le _,Below.refl _ _⟩
       case round=>
        obtain⟨i2,rfl,kU,b3⟩:=hrel;have b4:=b2.trans (b3.mono b2.size);by_cases hlt2:i2<ln
        ·have iY:decide ((i2:Int)<(ln:Int))=true:=decide_eq_true (by omega);have iZ:=decide_eq_true hlt2;obtain⟨q2,bS⟩:∃y,L2[i2]?=some y:=⟨_,List.getElem?_eq_getElem (by rw[←iX.out];exact hlt2)⟩;obtain⟨ge,oe,r,rfl,kV,eC,aE⟩:=(hE.up b3).at_ bS;obtain⟨bF,hr2,hr3,hr4,-⟩:=eC;have aB:r.id.length=32:=by rw[bF];exact hr2
         have bG:=Rw.len aB;have aS:=List.mem_of_getElem? bS;have bX:lookE L2 r.id=q2.2:=by rw[bF];exact Fo bT.okE.rise q2 aS
         have aC:F9 (wr.alloc (Obj.cells rwz.cells.toArray 73)) ⟨wr.heap.size,0,none⟩ 33=true:=(Bk.new wr _ _).can (by rw[Rw.len (by simp[rwz])];omega);obtain⟨we,aL⟩:=D9 (C2 (wr.alloc (Obj.cells rwz.cells.toArray 73)) ⟨wr.heap.size,0,none⟩ r.cells);have kg:Bk we wr.heap.size 73 r.cells:=by rw[aL];exact (Bk.new wr _ _).puts (by rw[bG,Rw.len (by simp[rwz])])
         have be:Below wr.heap.size wr we:=by rw[aL];exact C0 (U7 _ _) (Nat.le_refl _) _
         have b5:=X4 b3 be;have HH:=Lib.hid ((hr4.below be).more be.size);have eD:=Lib.hid bX;clear bS bF hr2 hr3 hr4 aS bX be;go_wp2_with fail;rw[←aL];clear aL aC aE;refine Wp [132,133,134,135,136,137,138,139,140,141,142,143,144,145,146] (fun f W=>f 146=.bool false∧Below we.heap.size we W) ?_ ?_
         ·have S1:=Nq we;have b6:=b5.trans (S1.mono b5.size);have bW:=b2.trans (b6.mono b2.size);have Iw:=Ic.up bW;have hl:=(M2.out.below b6 (Nat.le_refl _)).lookz (t:=66) false Tryz.underlying66 C8q aB;rw[if_neg (by simp),dZ.out r.id]at hl;have kW:=Nat.le_of_lt kg.lt;have aT:=kg.drew;have cV:r.cells[32]?=some (.slice r.s.a r.s.n r.s.c):=by rw[Rw.cells,List.getElem?_append_right (by simp[aB])];simp[aB,Sv.v]
          by_cases hin:r.id∈S
          ·rw[if_pos hin,Option.getD_some]at hl;have HL:=Lib.hid hl;clear hin hl;refine Ij (fun W=>Bk W wr.heap.size 73 r.cells) ?_;refine Cn (A:=?kZ) [0,1,2] aT (fun W hW=>?jA) ?lC;case jA=>have f3:=Rw.loadid hW aB;exact Fa
           refine Q6 3 fun Q' hQ'=>?_;dsimp only[C6];have hl:=HL.out;go_wp2_with fail;refine hQ' _ _ aT ?_;clear hQ' hl;refine Cn (A:=?lD) [4,5,6,7,8,9,10,11,12,13,14] aT (fun W hW=>?hv2) ?lE;case hv2=>
            simp only[List.append_eq,Nw,pick,Se];repeat (go_big_quiet_step (fail))
            refine wpQuiet_nil ?_;rfl
           refine Gn ?_;exact ⟨rfl,by kernel_rfl,rfl,S1⟩
          ·rw[if_neg hin,Option.getD_none]at hl;have HL:=Lib.hid hl;have fQ:moreE us L r.id=[]:=by
            by_cases h3:moreE us L r.id=[]
            ·exact h3
            ·exact absurd ((dT.out r.id).2 h3) hin
           have fR:lookE L r.id=q2.2:=by rw[←eD.out,iW.out,Cr r.id cL cN,fQ];simp
           have jB:=Lib.hid fR;clear hin hl fQ fR;refine Ij (fun W=>Bk W wr.heap.size 73 r.cells∧Bk W gD 34 [.int .i64 (k:Int),.pointer ap.2,.int .i64 0,.map mb.1]) ?_;refine Cn (A:=?lF) [0,1,2] ⟨aT,Iw.kd⟩ (fun W hW=>?jC) ?lG;case jC=>have f3:=Rw.loadid hW.1 aB;exact Fa
           refine Q6 3 fun Q' hQ'=>?_;dsimp only[C6];have hl:=HL.out;go_wp2_with fail;refine hQ' _ _ ⟨aT,Iw.kd⟩ ?_;clear hQ' hl;refine Cn (A:=?lH) [4,5,6,7,8,9,10] ⟨aT,Iw.kd⟩ (fun W hW=>?jD) ?lI;case jD=>
            have f1:C4 W ⟨gD,0,none⟩ 4=some [.int .i64 (k:Int),.pointer ap.2,.int .i64 0,.map mb.1]:=hW.2.rows;have f2:=hW.1.at_ (i:=32) cV;have f3:=Rw.loadid hW.1 aB;simp only[List.append_eq,Nw,pick,Se];repeat (go_big_quiet_step (fail))
            refine wpQuiet_nil ?_;rfl
           refine Q6 11 fun Q' hQ'=>?_;dsimp only[C6];have aA:=Lib.hid hQ';clear hQ';go_wp2_with fail;refine (Vo Iw.dir r.id aB (Nat.le_trans (bE r.id) (by omega))).mono ?_;rintro y wp ⟨jE,rfl,bA,bp⟩;rw[jB.out]at bA;have eE:=Iw.up bp;have bB:=aT.bl bp;have bY:=Lib.hid ((((HH.out.below S1).more S1.size).below bp).more bp.size);have bZ:=Lib.hid (bA.hs.less (Nat.zero_le _));have S2:=S1.trans (bp.mono S1.size);clear bA bp Iw aT;go_wp2_with fail;refine aA.out _ _ ⟨bB,eE.kd⟩ ?_;clear aA;refine Q6 12 fun Q' hQ'=>?_;dsimp only[C6];have aA:=Lib.hid hQ';clear hQ';go_wp2_with fail;refine (Mj _ _ q2.2 wp (show Hs wp 0 wp.heap.size (.slice r.s.a r.s.n r.s.c) q2.2 from bY.out) bZ.out).mono ?_;rintro y wq ⟨rfl,bq⟩;have fS:=eE.up bq;have bC:=bB.bl bq;have S3:=S2.trans (bq.mono S2.size);clear bY bZ bq eE bB;go_wp2_with fail;refine aA.out _ _ ⟨bC,fS.kd⟩ ?_;clear aA;refine Cn (A:=?lJ) [13,14] ⟨bC,fS.kd⟩ (fun W hW=>?jF) ?lK;case jF=>
            simp only[List.append_eq,Nw,pick,Se];repeat (go_big_quiet_step (fail))
            refine wpQuiet_nil ?_;rfl
           refine Gn ?_;exact ⟨rfl,by kernel_rfl,rfl,S3⟩
         ·rintro f W4 ⟨cA,b7⟩;dsimp only[C0e,List.foldl];simp only[Nv];rw[cA];have b8:=b5.trans (b7.mono b5.size);have lM:i2<1000000:=by omega
          clear cA HH;go_wp2_with fail;go_roundw;case rel=>exact ⟨i2+1,by simp,by omega,b8⟩
          case measure=>exact Lg hlt2
        ·have iY:decide ((i2:Int)<(ln:Int))=false:=decide_eq_false (by omega);have iZ:=decide_eq_false hlt2;have I4:=Ic.up b4;have fT:=cR.up b4;have cB:=aZ.bl b4;have fO:C4 wr ⟨gN,0,none⟩ 4=some [.int .i64 (k2:Int),.pointer ap',.int .i64 0,.map mb']:=cB.rows;have aC:F9 wr ⟨gD,0,none⟩ 4=true:=I4.kd.can (by simp);have I6:TlI w (C2 wr ⟨gD,0,none⟩ [.int .i64 (k2:Int),.pointer ap',.int .i64 0,.map mb']) gD (.slice Ao n co) (.slice Ag n cg) (.slice (some ⟨g1,0,none⟩) m cp) (.slice (some ⟨g2,0,none⟩) m ch) bs aK k2 (none,ap') (mb',none) (applyE us L) (N+us.length):=by have h2:=eZ.out;subst h2;exact I4.next (ap':=(none,ap')) (mb':=(mb',none)) fT (by omega) (by omega) (fun x=>by have:=aH x;have:=aD x;omega)
         have jG:=Lib.hid I6;have lN:j<1000000:=by omega
         clear I4 fT cB I6;go_wp2_with fail;go_roundw;case rel=>exact ⟨j+1,k2,(none,ap'),(mb',none),_,_,by omega,by simp,by have:=eZ.out;omega,jG.out⟩
         case measure=>exact Lg hlt
      | cons x s3=>
       have iV:decide (s1.length<sl)=true:=decide_eq_true (by rw[aI,aR];simp);have jH:s1.length<sl:=by rw[aI,aR];simp
       obtain⟨b2,r,rfl,bD,cC,aU⟩:=hgs.row (i:=s1.length) (q:=(x,lookE L x,moreE us L x)) (by rw[List.getElem?_map,aR];simp);have aE:=(Gj (a:=⟨b2,s1.length*34,none⟩) b1 bD).trans aU;have jI:x.length=32:=cC.2.1;have aB:r.id.length=32:=by rw[cC.1];exact jI
       have fU:r.id=x:=cC.1;have bG:=Gw.len aB;have aC:F9 (wr.alloc (Obj.cells Ux.cells.toArray 51)) ⟨wr.heap.size,0,none⟩ 34=true:=(Bk.new wr _ _).can (by rw[Gw.len (by simp[Ux])];omega);obtain⟨we,aL⟩:=D9 (C2 (wr.alloc (Obj.cells Ux.cells.toArray 51)) ⟨wr.heap.size,0,none⟩ r.cells);have kg:Bk we wr.heap.size 51 r.cells:=by rw[aL];exact (Bk.new wr _ _).puts (by rw[bG,Gw.len (by simp[Ux])])
       have be:Below wr.heap.size wr we:=by rw[aL];exact C0 (U7 _ _) (Nat.le_refl _) _
       have fV:=X4 b1 be;have M2:=M1.below be (Nat.le_refl _);have jJ:wc.heap.size<wr.heap.size:=M1.lt;have hid:=Gw.rowid (g:=wr.heap.size) (o:=0) (by have:=kg.rows;rwa [bG]at this) aB;have cV:r.cells[32]?=some (.slice r.s.a r.s.n r.s.c):=by rw[Gw.cells,List.getElem?_append_right (by simp[aB])];simp[aB,Sv.v]
       have fW:r.cells[33]?=some (.slice r.m.a r.m.n r.m.c):=by rw[Gw.cells,List.getElem?_append_right (by simp[aB])];simp[aB,Sv.v]
       obtain⟨D,hD,cD⟩:=M2.put aB (.int .i64 1);have fX:s1.length<maxLen:=by unfold maxLen;omega
       have fY:=Lib.hid aR;have dZ:=Lib.hid cT;have jK:=Lib.hid cC;have cE:=Lib.hid fU;rw[aL]at hid;clear aR cT cC aU M1 M2 fU be aI;obtain⟨ks,cW⟩:=D9 (lookE L x);obtain⟨mo,eF⟩:=D9 (moreE us L x);have cX:∀W,Below wc.heap.size wc W→(r.s.n=ks.length∧Rd W 0 W.heap.size r.s.a (c8 ks.flatten)∧∀k∈ks,k.length=32)∧UsK W r.m.v mo∧KS W r.s.v ks:=fun W hW=>by
        have hg:=jK.out.up hW;rw[cW,eF];exact ⟨hg.2.2.1.parts,hg.2.2.2,hg.2.2.1.ks⟩
       have cY:=Lib.hid cX;have eG:r.s.n=ks.length:=(cX wc (Below.refl _ _)).1.1;have cF:∀k∈ks,k.length=32:=(cX wc (Below.refl _ _)).1.2.2;have lO:ks.length≤1000:=by rw[cW];exact bE x
       have fZ:(c8 ks.flatten).length=r.s.n*32:=by rw[C1,Cc cF,eG]
       have aO:∀y∈c8 ks.flatten,y.oneCell'=true:=fun y hy=>by obtain⟨z,_,rfl⟩:=List.mem_map.1 hy;rfl
       have gC:0+r.s.n≤68719476736:=by omega
       have gF:=Lib.hid cW;have eH:=Lib.hid eF;have jL:=Lib.hid eG;clear cW eF cX eG;go_wp2_with (first | (at_mapUpdate;rw[←aL];refine wpList_mapUpdate_own _ rfl _ _ _ 66 rfl 40 3 Cd Tryz.underlying66 RV wc.heap.size s1.length D rfl hD fX _ _ (Wi r.id) rfl rfl (Fx aB) (.held (.int .i64 1)) [] rfl ?_;intro wf aV aF;have cZ:=kg.grown aF (fun e2=>by injection e2 with e2;omega);have jM:=(cZ.alloc (.cells #[] 40)).at_ (i:=32) cV;have dC:=fV.trans (C5h aF (Nat.lt_trans jJ kg.lt));have gG:=((cY.out wf dC).1.2.1).below ((Below.refl wf.heap.size wf).alloc (Nat.le_refl _) (.cells #[] 40))) | (at_builtin;refine B7p 49 (A8 (z8 32)) 32 Tryz.underlying49 Yo (by simp[A8,Value.cells]) (by decide) (by decide) rfl _ _ rfl rfl (n:=0) (base:=wf.heap.size) (World.ownsRow_made wf #[] 0 (Nat.le_refl _) (Nat.zero_le _) (by simp)) r.s.a r.s.n r.s.c rfl (c8 ks.flatten) fZ 0 _ gG aO gC (by simp) ?_;intro A5 c5 wg lP lQ gH gI jN eI;have gJ:Below wf.heap.size wf wg:=(U7 _ _).trans gI;have gK:=cZ.bl gJ;have jO:=gK.at_ (i:=33) fW) | fail);have Mf:=cD wf aV;have gL:OwnK wg wf.heap.size (.slice A5 r.s.n c5) ks:=⟨cF,by have:=gH;simp only[Nat.zero_add,List.nil_append]at this;rw[←jL.out];exact this⟩;have gM:r.m.n=mo.length:=by obtain⟨A,c,e⟩:=(cY.out wf dC).2.1.1.form;unfold Sv.v at e;injection e
       have gO:mo.length≤12:=by have h1:(moreE us L x).length≤(Ee us L).length:=List.length_filter_le _ _;have h2:=Cv us L;rw[eH.out];omega
       have gQ:=Lib.hid gM;have gR:=Lib.hid gL;clear gM aV aF cD hD gH gI jN eI gG kg fV fZ aO gC fX gL aL aC aE hid jM;have gT:Hid (∀W,Below wc.heap.size wc W→UsK W (.slice r.m.a r.m.n r.m.c) mo):=Lib.hid (fun W hW=>(cY.out W hW).2.1);obtain⟨ma,gU⟩:=D9 (r.m.a);rw[←gU]at gT ⊢;clear gU;obtain⟨gx,gV⟩:=D9 (wr.heap.size);rw[←gV]at cZ ⊢;clear gV gK jO;go_loopw [21,91] (fun av jv W=>∃(u1 u2:List UV),jv=.int .i64 (u1.length:Int)∧mo=u1++u2∧OwnK W wf.heap.size av (ks++u1.map (·.key))∧Below wf.heap.size wf W) (fun _ jv _=>r.m.n-(intOf jv).toNat)
       case atStart=>exact ⟨[],mo,rfl,rfl,by simpa using gR.out,gJ⟩
       case round=>
        clear gR;obtain⟨u1,u2,rfl,aW,dD,b5⟩:=hrel;have aJ:r.m.n=mo.length:=gQ.out;have bW:=dC.trans (b5.mono (by have:=dC.size;omega));cases u2 with
        | nil=>
         have eJ:decide (u1.length<r.m.n)=false:=decide_eq_false (by rw[aJ,aW];simp);rw[List.append_nil]at aW;subst aW;have jP:=Lib.hid dD;have jQ:=Lib.hid (Mf.below b5 (Nat.le_refl _));have gW:=cZ.bl b5;have cG:mo≠[]:=by rw[eH.out];exact (dT.out x).1 (by rw[fY.out];simp)
         have lR:((r.m.n:Int)==0)=false:=by rw[beq_eq_false_iff_ne];have:0<mo.length:=List.length_pos_iff.2 cG;omega
         have eK:lookE (applyE us L) x=ks++mo.map (·.key):=by rw[Cr x cL cN,←gF.out,←eH.out]
         have jR:=Lib.hid eK;have aQ:(lookE (applyE us L) x).length≤1000000:=by rw[eK,List.length_append,List.length_map];omega
         have eL:(lookE L x).length≤1000000:=Nat.le_trans (bE x) (by omega);have S1:=Nq wr;have bH:=bW.trans (S1.mono bW.size);have I1:=Ic.up bH;have bT:=cR.up bH;have bU:=aZ.bl bH;have eM:=gW.drew;have gX:Below wr.heap.size wr wr.drew:=S1;clear dD eK cG S1 gW aJ;go_wp2_with fail;refine Ij (fun W=>Bk W gx 51 r.cells∧Bk W gD 34 [.int .i64 (k:Int),.pointer ap.2,.int .i64 0,.map mb.1]∧Bk W gN 34 [.int .i64 (k2:Int),.pointer ap',.int .i64 0,.map mb']) ?_;refine Cn (A:=?lS) [0,1,2,3,4] ⟨eM,I1.kd,bU⟩ (fun W hW=>?jS) ?lT;case jS=>have f1:C4 W ⟨gD,0,none⟩ 4=some [.int .i64 (k:Int),.pointer ap.2,.int .i64 0,.map mb.1]:=hW.2.1.rows;have f2:=hW.1.at_ (i:=32) cV;have f3:=Gw.rowid (g:=gx) (o:=0) (by have:=hW.1.rows;rwa [bG]at this) aB;exact Fa
         refine Q6 5 fun Q' hQ'=>?_;dsimp only[C6];have aA:=Lib.hid hQ';clear hQ';go_wp2_with fail;refine (Vo I1.dir r.id aB (by rw[cE.out];exact eL)).mono ?_;rintro y wp ⟨jE,rfl,bA,bp⟩;rw[cE.out,←gF.out]at bA;have bI:=bH.trans (bp.mono bH.size);have eN:=gX.trans bp;have I2:=Ic.up bI;have gY:=aZ.bl bI;have bB:=eM.bl bp;have bY:=Lib.hid (((cY.out wp bI).2.2:KS wp (.slice r.s.a r.s.n r.s.c) ks).hs);have bZ:=Lib.hid (bA.hs.less (Nat.zero_le _));clear bA bp I1 bU eM bT gX bH;go_wp2_with fail;refine aA.out _ _ ⟨bB,I2.kd,gY⟩ ?_;clear aA;refine Q6 6 fun Q' hQ'=>?_;dsimp only[C6];have aA:=Lib.hid hQ';clear hQ';go_wp2_with fail;refine (Mj _ _ ks wp bY.out bZ.out).mono ?_;rintro y wq ⟨rfl,bq⟩;have bJ:=bI.trans (bq.mono bI.size);have dF:=eN.trans (bq.mono eN.size);have jT:wr.heap.size≤wq.heap.size:=dF.size;have I3:=Ic.up bJ;have gZ:=cR.up bJ;have eO:=aZ.bl bJ;have bC:=bB.bl bq;clear bY bZ bq I2 gY bB eN bI;go_wp2_with fail;refine aA.out _ _ ⟨bC,I3.kd,eO⟩ ?_;clear aA;refine Cn (A:=?lU) [7,8,9,10,11,12] ⟨bC,I3.kd,eO⟩ (fun W hW=>?jU) ?lV;case jU=>
          have f1:C4 W ⟨gN,0,none⟩ 4=some [.int .i64 (k2:Int),.pointer ap',.int .i64 0,.map mb']:=hW.2.2.rows;have f3:=Gw.rowid (g:=gx) (o:=0) (by have:=hW.1.rows;rwa [bG]at this) aB;simp only[List.append_eq,Nw,pick,Se];repeat (go_big_quiet_step (fail))
          refine wpQuiet_nil ?_;rfl
         refine Q6 13 fun Q' hQ'=>?_;dsimp only[C6];have aA:=Lib.hid hQ';clear hQ';go_wp2_with fail;refine (Vo gZ r.id aB (by rw[cE.out];exact aQ)).mono ?_;rintro y jV ⟨lW,rfl,eP,br⟩;rw[cE.out,jR.out]at eP;have cH:=bJ.trans (br.mono bJ.size);have iA:=dF.trans (br.mono dF.size);have I4:=Ic.up cH;have cB:=aZ.bl cH;have eQ:=bC.bl br;have jW:=Nat.le_trans jT br.size;have iB:=Lib.hid ((jP.out.below iA (Nat.le_refl _)).hs.less (Nat.zero_le _));have iC:=Lib.hid (eP.hs.less (Nat.zero_le _));clear eP br I3 eO bC gZ dF bJ;go_wp2_with fail;refine aA.out _ _ ⟨eQ,I4.kd,cB⟩ ?_;clear aA;refine Q6 14 fun Q' hQ'=>?_;dsimp only[C6];have aA:=Lib.hid hQ';clear hQ';go_wp2_with fail;refine (Mj _ _ _ jV iB.out iC.out).mono ?_;rintro y ws ⟨rfl,aK⟩;have eS:=cH.trans (aK.mono cH.size);have I5:=Ic.up eS;have eT:=aZ.bl eS;have eU:=eQ.bl aK;have jX:=Lib.hid (jQ.out.below (iA.trans (aK.mono jW)) (Nat.le_refl _));clear iB iC I4 cB eQ cH;go_wp2_with fail;refine aA.out _ _ ⟨eU,I5.kd,eT⟩ ?_;clear aA;refine Cn (A:=?lX) [15,16,17,18,19,20,21,22] ⟨eU,I5.kd,eT⟩ (fun W hW=>?jY) ?lY;case jY=>
          have f1:=hW.1.at_ (i:=33) fW;simp only[List.append_eq,Nw,pick,Se];repeat (go_big_quiet_step (fail))
          refine wpQuiet_nil ?_;rfl
         refine Gn ?_;have iD:∀y,Sd m1 r.id (.int .i64 1) y=if y∈s1++[x] then some (.int .i64 1) else none:=fun y=>by
          unfold Sd;rw[dZ.out y,cE.out];by_cases e:y=x
          ·simp[e]
          ·simp[e]
         have jZ:=Lib.hid iD;have lZ:s1.length<1000000:=by omega
         clear iD I5 eT eU;go_wp2_with fail;go_roundw;case rel=>exact ⟨s1++[x],s3,_,by simp,by rw[fY.out];simp,by rw[List.length_append];exact jX.out,jZ.out,eS⟩
         case measure=>exact Lg jH
        | cons u u3=>
         have eJ:decide (u1.length<r.m.n)=true:=decide_eq_true (by rw[aJ,aW];simp);have eV:u1.length<r.m.n:=by rw[aJ,aW];simp
         obtain⟨gu,rfl,mA,eC,eW⟩:=(gT.out wr bW).row (i:=u1.length) (u:=u) (by rw[aW];simp);have kC:=eW.len;have iE:=eW.key;have aC:=(Bk.new wr 69 (N9 (Gk 129))).canvc (n:=129) (Ci _).len;obtain⟨wh,bK⟩:=D9 (C2 (wr.alloc (Obj.cells (N9 (Gk 129)).toArray 69)) ⟨wr.heap.size,0,none⟩ (N9 u));have ku:Bk wh wr.heap.size 69 (N9 u):=by rw[bK];exact (Bk.new wr 69 (N9 (Gk 129))).putvc (n:=129) (Ci _).len kC
         have bh:Below wr.heap.size wr wh:=by rw[bK];exact C0 (U7 _ _) (Nat.le_refl _) _
         have kD:Hid (wh.heap.size=wr.heap.size+1):=Lib.hid (by rw[bK];simp);have cI:=UV.loadkey ku eW;have iF:=X4 b5 bh;have eX:=Lib.hid (dD.below bh (Nat.le_refl _));have aO:∀y∈c8 u.key,y.oneCell'=true:=fun y hy=>by obtain⟨z,_,rfl⟩:=List.mem_map.1 hy;rfl
         have kE:wf.heap.size≤wh.heap.size:=iF.size;obtain⟨K,hK⟩:=D9 (ks++u1.map (·.key));rw[←hK]at eX;have kF:K.length+1≤68719476736:=by rw[hK,List.length_append,List.length_map];omega
         have HK:=Lib.hid hK;have kH:=Lib.hid aW;rw[bK]at cI;clear aW dD bh hK ku aJ;go_wp2_with (first | (at_builtin;rw[←bK];refine T7 49 40 (A8 (z8 32)) 32 32 Tryz.underlying49 Yo (by simp[A8,Value.cells]) (by decide) (by decide) rfl _ _ rfl rfl eX.out.2 (c8 u.key) (by simp[iE]) aO _ rfl rfl kD.out kF kE ?_;intro A6 c6 wi mB mD iG iH kI eY) | fail);have iI:OwnK wi wf.heap.size (.slice A6 (K.length+1) c6) (K++[u.key]):=by
          refine ⟨fun y hy=>?_,?_⟩
          ·rcases List.mem_append.1 hy with hy | hy
           ·exact eX.out.1 y hy
           ·rw[List.mem_singleton.1 hy];exact iE
          ·have kJ:c8 (K++[u.key]).flatten=c8 K.flatten++c8 u.key:=by simp[c8]
           rw[kJ,List.length_append];exact iG
         have b6:=iF.trans iH;have kK:=Lib.hid iI;have iJ:u1.length<1000000:=by have:=gQ.out;omega
         clear iI iG kI eY iH bK aC eC cI;go_roundw;case rel=>exact ⟨u1++[u],u3,by rw[Ry iJ];simp,by rw[kH.out];simp,by rw[List.map_append,←List.append_assoc,←HK.out];exact kK.out,b6⟩
         case measure=>rw[Ry iJ];exact Lg eV
    ·have hd:decide ((j:Int)<(m:Int))=false:=decide_eq_false (by omega);have dG:=decide_eq_false hlt;have BF:=I.below;clear I;go_wp2_with fail;go_ret;exact ⟨rfl,BF⟩
end
end Go.Proofs.YtmllnpokbbabhaaGreat
