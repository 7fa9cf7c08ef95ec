/- A part of the proof of DirOrder. -/
import Derived.Test.YtlegpkdighoflaaGreatQbp
set_option linter.unusedVariables false
set_option linter.unusedSimpArgs false
set_option maxRecDepth 100000
set_option maxHeartbeats 40000000
namespace Go.Proofs.YtlegpkdighoflaaGreat
open Go Go.RowKit Sh
section
noncomputable def u1:UV:=Og (h1 1) 1 (h1 2)
theorem D2q:u1.Ok:=B6x _ _ (Ga 2)
theorem C0t:Ii (lookE [] u1.id) u1=true:=by
 unfold Ii;have h:U8 u1=true:=D3p.2;rw[h];rfl
theorem C8f:u1.key=h1 2:=by unfold u1 Og;rfl
theorem A4a:applyE [u1] []=[(u1.id,[h1 2])]:=by
 have h:applyE [u1] []=Ig [] u1:=by unfold applyE;rw[List.foldl_cons,List.foldl_nil]
 rw[h];unfold Ig;rw[C0t,if_pos rfl,C8f];unfold Em;simp[lookE]
theorem A8w:lookE [(u1.id,[h1 2])] u1.id=[h1 2]:=by unfold lookE;rw[if_pos rfl]
theorem C0k:((Tr.lf eu9.B (Dq [h1 2])).root==z8 32)=false:=by decide +kernel
theorem D4z:u1.id=eu9.B:=by
 have h:u1=⟨eu9.B,1,h1 2,eu9.F++eu9.SB⟩:=D3p.1;rw[h]
theorem B2y {t:Tr} {k v:List UInt8} (ht:Okt t) (h:t.pairs=[(k,v)]):t=.lf k v:=by
 cases t with
 | e=>simp[Tr.pairs]at h
 | lf a b=>
  simp only[Tr.pairs,List.cons.injEq,Prod.mk.injEq,and_true]at h;rw[h.1,h.2]
 | nd l r=>
  have h2:(Tr.nd l r).pairs.length=1:=by rw[h];rfl
  rw[←Tr.len_pairs]at h2;have h3:2≤l.len+r.len:=ht.2.1;have e:(Tr.nd l r).len=l.len+r.len:=rfl;omega
theorem A7a {t:Tr} (ht:IsTree t [(u1.id,[h1 2])]):(t.root==z8 32)=false:=by
 have h:=B2y ht.ok (ht.prs.trans (by unfold pairsE;rw[List.map_cons,List.map_nil]));rw[h,D4z];exact C0k
theorem C5t:Og (h1 1) 1 (h1 2)=u1:=by unfold u1;rfl
attribute [irreducible] u1
theorem By.zero {w:World} {lo B:Nat} {v:Value} {l:List UInt8} (h:By w lo B v l):By w 0 B v l:=by
 obtain⟨A,c,e,h1,h2,h3⟩:=h;exact ⟨A,c,e,h1,h2,h3.less (Nat.zero_le _)⟩
theorem C7b (w:World) {N:Nat} (hN:w.heap.size=N) {u:UV} (hu:u.Ok):US (w.alloc (Obj.cells (Dt u).toArray 63)) (w.alloc (Obj.cells (Dt u).toArray 63)).heap.size (.slice (some ⟨N,0,none⟩) 1 1) [u]:=by
 subst hN;exact .inr ⟨w.heap.size,[],1,rfl,⟨fun x hx=>(by simp at hx;subst hx;exact hu),by simpa using Bk.new w 63 (Dt u)⟩,by simp⟩
theorem B6r (w:World):(Instr.build 34 #[]).run Tryz.prog w=.ok (.agg #[.int .i64 0,.pointer none,.int .i64 0,.map none]) w:=by kernel_rfl
attribute [local go_sem ↓ high] Rm Td
theorem B1v (w:World):Calls Tryz.prog 7 #[] w fun x w'=>x=.returned (.bool true)∧Below w.heap.size w w':=by
 have cM:=B6r;go_enter Tryz.func7,Tryz.ntmps7;go_wp2_with fail;refine (A2v (h1 1) 1 (h1 2) (Ga 1) (Ga 2) w).mono ?_;rintro x w2 ⟨rfl,b2⟩;rw[C5t];obtain⟨u,hu⟩:=H8 (u1);have aI:u.Ok:=by rw[hu];exact D2q
 have cA:Hid (applyE [u] []=[(u.id,[h1 2])]):=Lib.hid (by rw[hu];exact A4a);have bF:Hid (lookE [(u.id,[h1 2])] u.id=[h1 2]):=Lib.hid (by rw[hu];exact A8w);have cB:Hid (∀ {t:Tr},IsTree t [(u.id,[h1 2])]→(t.root==z8 32)=false):=Lib.hid (by rw[hu];exact A7a);rw[←hu];clear hu;have bO:=aI.len;have bG:=aI.id;have aJ:=(Bk.new w2 63 (Dt (Un 129))).canvc (n:=129) (Nr _).len;obtain⟨w3,aN⟩:=H8 (E0 (w2.alloc (Obj.cells (Dt (Un 129)).toArray 63)) ⟨w2.heap.size,0,none⟩ (Dt u));have ku:Bk w3 w2.heap.size 63 (Dt u):=by rw[aN];exact (Bk.new w2 63 (Dt (Un 129))).putvc (n:=129) (Nr _).len bO
 have b3:Below w2.heap.size w2 w3:=by rw[aN];exact C5 (Bi _ _) (Nat.le_refl _) _
 have B3:=J5 b2 b3;have bH:w3.heap.size=w2.heap.size+1:=by rw[aN];simp
 have r3:=ku.rowvc (n:=129) bO;rw[aN]at r3;go_wp2_with fail;rw[←aN];clear aN aJ r3 b3;have bH:=Lib.hid bH;generalize w2.heap.size=gu at *;have B4:=B3.alloc B3.size (Obj.cells (Dt u).toArray 63);have bP:=ku.alloc (Obj.cells (Dt u).toArray 63);refine (Qt _ 0 [] 0 [u] _ (w3.alloc (Obj.cells (Dt u).toArray 63)) (Ax.nil _) (C7b w3 bH.out aI) (by omega) (by simp) (by simp) (fun x=>by simp[lookE])).mono ?_;rintro x w5 ⟨dv,rfl,hD,b5⟩;have hD:Ax w5 dv 1 [(u.id,[h1 2])] 1:=by rw[←cA.out];exact hD
 obtain⟨ap,mb,rfl⟩:=hD.form;rw[show ((1:Nat):Int)=1 from rfl]at hD ⊢;have B5:=J5 B4 b5;have bQ:=bP.bl b5;clear b5 bP B4 ku B3 b2;have k0:=Bk.new w5 34 [.int .i64 0,.pointer none,.int .i64 0,.map none];have aJ:=Fu 4 k0 (by simp);obtain⟨w6,aS⟩:=H8 (E0 (w5.alloc (Obj.cells #[.int .i64 0,.pointer none,.int .i64 0,.map none] 34)) ⟨w5.heap.size,0,none⟩ [.int .i64 1,.pointer ap,.int .i64 0,.map mb]);have kd:Bk w6 w5.heap.size 34 [.int .i64 1,.pointer ap,.int .i64 0,.map mb]:=by rw[aS];exact k0.puts (by simp)
 have b6:Below w5.heap.size w5 w6:=by rw[aS];exact C5 (Bi _ _) (Nat.le_refl _) _
 have bI:=hD.up b6;have bJ:=bQ.bl b6;have B6:=J5 B5 b6;have r4:I6 w6 ⟨w5.heap.size,0,none⟩ 4=some [.int .i64 1,.pointer ap,.int .i64 0,.map mb]:=kd.rows;have r5:=UV.loadid bJ aI;rw[aS]at r4 r5;clear k0 hD bQ B5 b6;go_wp2_with fail;rw[←aS];clear aS aJ r4 r5;generalize w5.heap.size=gd at *;refine (B8e bI u.id bG (by rw[bF.out];decide)).mono ?_;rintro x w7 ⟨kv,rfl,ho,b7⟩;rw[bF.out]at ho;have hH:=ho.hs;obtain⟨A,c,rfl,_,_⟩:=ho.form;obtain⟨gk,ok,rfl,cC,bR⟩:=Hs.at_ (hH.less (Nat.zero_le _)) (m:=0) (k:=h1 2) rfl;have bS:=bI.up b7;have bT:=bJ.bl b7;have bU:=kd.bl b7;have B7:=J5 B6 b7;have bK:([h1 2]:List (List UInt8)).length=1:=rfl;rw[bK];clear bI bJ kd B6 b7 ho hH;go_wp2_with fail;have S0:=Eo w7;have bL:=bS.up S0;have bV:=bT.bl S0;have bX:=bU.bl S0;have B8:=J5 B7 S0;have aT:I6 w7.drew ⟨gk,ok,none⟩ 32=some (c8 (h1 2)):=by have:=bR;rwa [Nat.zero_mul,Nat.add_zero]at this
 have aU:gk<w7.drew.heap.size:=cC;have cN:=Ga 2;obtain⟨t,ht⟩:=bL.tree;have HT:=Lib.hid ht;have cO:=t.root_length;have cP:=cB.out ht;clear bS bT bU B7 bR ht;refine Dm (fun X=>Bk X gd 34 [.int .i64 1,.pointer ap,.int .i64 0,.map mb]∧Bk X gu 63 (Dt u)∧I6 X ⟨gk,ok,none⟩ 32=some (c8 (h1 2))) ?_;refine Cf (A:=?cQ) [0] ⟨bX,bV,aT⟩ (fun X hX=>?cD) ?cR;case cD=>have f1:I6 X ⟨gd,0,none⟩ 4=some [.int .i64 1,.pointer ap,.int .i64 0,.map mb]:=hX.1.rows;have f2:=UV.loadid hX.2.1 aI;have f3:=hX.2.2;exact Dd
 refine U0 1 fun Q' hQ'=>?_;dsimp only[F8];have aA:=Lib.hid hQ';clear hQ';go_wp2_with fail;refine (Uf bL).mono ?_;rintro x w9 ⟨rfl,b9⟩;have bY:=bL.up b9;have bM:=bV.bl b9;have bN:=bX.bl b9;have B9:=J5 B8 b9;have aK:=(Es (a:=⟨gk,ok,none⟩) b9 aU).trans aT;have aV:=Nat.lt_of_lt_of_le aU b9.size;go_wp2_with fail;refine aA.out _ _ ⟨bN,bM,aK⟩ ?_;clear aA;refine Cf (A:=?cS) [2,3,4,5,6,7,8,9,10,11,12,13,14,15,16,18] ⟨bN,bM,aK⟩ (fun X hX=>?cE) ?cT;case cE=>
  have f1:I6 X ⟨gd,0,none⟩ 4=some [.int .i64 1,.pointer ap,.int .i64 0,.map mb]:=hX.1.rows;have f2:=UV.loadid hX.2.1 aI;have f3:=hX.2.2;simp only[List.append_eq,Vq,Bv,Sb];repeat (go_big_quiet_step (fail))
  refine wpQuiet_nil ?_;rfl
 refine U0 17 fun Q' hQ'=>?_;dsimp only[F8];have aA:=Lib.hid hQ';clear hQ';go_wp2_with fail;refine (Lh bY HT.out).mono ?_;rintro x cU ⟨rfl,aO⟩;have aW:=bY.up aO;have aL:=bM.bl aO;have aM:=bN.bl aO;have cF:=J5 B9 aO;have aB:=(Es (a:=⟨gk,ok,none⟩) aO aV).trans aK;have aC:=Nat.lt_of_lt_of_le aV aO.size;go_wp2_with fail;refine aA.out _ _ ⟨aM,aL,aB⟩ ?_;clear aA;refine Cf (A:=?cV) [19,20,21,22,24,25,26,27,28] ⟨aM,aL,aB⟩ (fun X hX=>?cG) ?cW;case cG=>
  have f1:I6 X ⟨gd,0,none⟩ 4=some [.int .i64 1,.pointer ap,.int .i64 0,.map mb]:=hX.1.rows;have f2:=UV.loadid hX.2.1 aI;have f3:=hX.2.2;simp only[List.append_eq,Vq,Bv,Sb];repeat (go_big_quiet_step (fail))
  refine wpQuiet_nil ?_;rfl
 refine U0 23 fun Q' hQ'=>?_;dsimp only[F8];have aA:=Lib.hid hQ';clear hQ';go_wp2_with fail;refine (Lh aW HT.out).mono ?_;rintro x cX ⟨rfl,aP⟩;have aX:=aW.up aP;have aY:=aL.bl aP;have aZ:=aM.bl aP;have cH:=J5 cF aP;have aD:=(Es (a:=⟨gk,ok,none⟩) aP aC).trans aB;have aE:=Nat.lt_of_lt_of_le aC aP.size;go_wp2_with fail;refine aA.out _ _ ⟨aZ,aY,aD⟩ ?_;clear aA;refine U0 29 fun Q' hQ'=>?_;dsimp only[F8];have aA:=Lib.hid hQ';clear hQ';go_wp2_with fail;refine (A6f aX HT.out u.id bG (by rw[bF.out];decide) (by simp)).mono ?_;rintro x cY ⟨av,pv,rfl,ho,hp,aQ⟩;have HO:=Lib.hid (ho.hs.less (Nat.zero_le _));have HP:=Lib.hid (hp.by_);obtain⟨Aa,ca,rfl,_,_⟩:=ho.form;obtain⟨Ap,cp,rfl,_,_⟩:=hp.form;clear ho hp;have bA:=aX.up aQ;have bB:=aY.bl aQ;have bC:=aZ.bl aQ;have cI:=J5 cH aQ;have aF:=(Es (a:=⟨gk,ok,none⟩) aQ aE).trans aD;have aG:=Nat.lt_of_lt_of_le aE aQ.size;go_wp2_with fail;refine aA.out _ _ ⟨bC,bB,aF⟩ ?_;clear aA;refine U0 30 fun Q' hQ'=>?_;dsimp only[F8];have aA:=Lib.hid hQ';clear hQ';go_wp2_with fail;refine (B3c HT.out bA.okE u.id bG (by rw[bF.out];decide) _ _ HO.out (By.zero HP.out)).mono ?_;rintro x cZ ⟨rfl,aR⟩;have cJ:=bA.up aR;have bD:=bB.bl aR;have bE:=bC.bl aR;have cK:=J5 cI aR;have aH:=(Es (a:=⟨gk,ok,none⟩) aR aG).trans aF;have bZ:=Nat.lt_of_lt_of_le aG aR.size;go_wp2_with fail
 refine aA.out _ _ ⟨bE,bD,aH⟩ ?_;clear aA;refine Cf (A:=?dB) [31,32,33] ⟨bE,bD,aH⟩ (fun X hX=>?cL) ?dC;case cL=>
  simp only[List.append_eq,Vq,Bv,Sb];repeat (go_big_quiet_step (fail))
  refine wpQuiet_nil ?_;rfl
 refine Cu ?_;go_wp2_with fail;go_ret;exact ⟨rfl,cK⟩
end
section
section
variable {w w' : World} {g o : Nat} {T : TypeId} {ds vs : List Value}
theorem Ax.put {dv:Value} {e:Nat} {L:List En} {N:Nat} (h:Ax w dv e L N) (hk:Bk w g T ds) (hd:B8d ds) (hT:T≠147):Ax (E0 w ⟨g,o,none⟩ vs) dv e L N:=by
 obtain⟨ap,mv,m,t,h1,h2,h3,h4,h5,h6,h7⟩:=h;refine ⟨ap,mv,m,t,h1,?_,fun k=>?_,h4,h5,h6,?_⟩
 ·rcases h2 with h2 | ⟨b,n,hn,hb,hm⟩
  ·exact .inl h2
  ·refine .inr ⟨b,n,hn,hb,hm.kept (Ct w g o vs) fun e=>?_⟩;obtain⟨ob,q1,q2⟩:=hm.row b rfl;injection e with e;subst e;unfold Bk at hk;rw[hk]at q1;injection q1 with q1;subst q1;cases q2
 ·rcases h3 k with h | ⟨h,hn⟩
  ·exact .inl h
  ·refine .inr ⟨?_,hn⟩;have:=C5d (o:=o) (vs:=vs) h hn hk hd;simpa using this
 ·have:=At.put_ hk hT o vs h7;simpa using this
end
theorem A7q {L:List En} {u:UV} (ok:OkE L) (hu:u.Ok):OkE (Ig L u)∧(Ig L u).length≤L.length+1∧∀x,(lookE (Ig L u) x).length≤(lookE L x).length+1:=by
 unfold Ig;split
 ·exact ⟨ok.with hu.id hu.key,B2b ok hu.id,fun x=>B6p ok hu.id hu.key (i:=0) (fun y=>Nat.le_refl _) x⟩
 ·exact ⟨ok,Nat.le_succ _,fun x=>Nat.le_succ _⟩
theorem Uq:∀ {us:List UV} {L:List En},OkE L→(∀u∈us,u.Ok)→OkE (applyE us L)∧(applyE us L).length≤L.length+us.length∧∀x,(lookE (applyE us L) x).length≤(lookE L x).length+us.length
 | [],L,ok,_=>⟨ok,Nat.le_refl _,fun x=>Nat.le_refl _⟩
 | u::us,L,ok,h=>by
  obtain⟨h1,h2,h3⟩:=A7q ok (h u (by simp));obtain⟨h4,h5,h6⟩:=Uq (us:=us) h1 fun x hx=>h x (List.mem_cons_of_mem _ hx);have e:applyE (u::us) L=applyE us (Ig L u):=rfl;rw[e];refine ⟨h4,?_,fun x=>?_⟩
  ·simp only[List.length_cons];omega
  ·have a:=h6 x;have b:=h3 x;simp only[List.length_cons];omega
theorem Wn (e:Int) (ap:Option Addr) (d:Int) (b:Option Nat):B8d [.int .i64 e,.pointer ap,.int .i64 d,.map b]:=by
 intro x hx y;simp only[List.mem_cons,List.not_mem_nil,or_false]at hx;rcases hx with rfl | rfl | rfl | rfl<;>(intro h;unfold v8 at h;first | cases h | (injection h with h;cases h))
end
section
theorem B4r (w:World) (raw:Result Next) (n:Int):A1h w raw (.int .u8 n)=if 0≤n∧n<256 then .ok (.value (A8 (h1 (UInt8.ofNat n.toNat)))) w else raw:=rfl
@[go_sem] theorem D8r (w : World) (raw : Result Next) (c : UInt8) : A1h w raw (.int .u8 (n8 c)) = .ok (.value (A8 (h1 c))) w := by
 have:=c.toNat_lt;have h:0≤n8 c∧n8 c<256:=by unfold n8;omega
 have h2:UInt8.ofNat (n8 c).toNat=c:=by unfold n8;simp
 rw[B4r,if_pos h,h2]
theorem C5a (k:Nat):Og (Bp (UInt8.ofNat k) 3) 1 (h1 (UInt8.ofNat k))=uo k:=by unfold uo;rfl
theorem C1b {k:Nat} (h:k<9):IntKind.u8.wrap (k:Int)=n8 (UInt8.ofNat k):=by
 match k,h with
 | 0,_=>rfl
 | 1,_=>rfl
 | 2,_=>rfl
 | 3,_=>rfl
 | 4,_=>rfl
 | 5,_=>rfl
 | 6,_=>rfl
 | 7,_=>rfl
 | 8,_=>rfl
 | n+9,h=>exact absurd h (by omega)
theorem B2i {k:Nat} (h:k<9):IntKind.i64.wrap (k:Int)=(k:Int):=IntWalk.i64_in _ (by omega)
theorem B6y {k:Nat} (h:k<9223372036854775808):wrap64 (k:Int)=(k:Int):=by unfold wrap64;omega
theorem C1z (x:UInt64) {q m:Nat} (hq:q≤9) (hm:m=x.toNat % (q+1)):wrap64 ((J0 x).tmod ((q:Int)+1))=(m:Int):=by
 have h1:=Nat.mod_lt x.toNat (show 0<q+1 by omega);have h2:(x.toNat:Int).tmod ((q:Int)+1)=((x.toNat % (q+1):Nat):Int):=by rw[Int.tmod_eq_emod_of_nonneg (by omega)];rfl
 unfold J0;rw[h2,←hm];rw[←hm]at h1;unfold wrap64;clear hm h2;omega
theorem UH.cut {w:World} {b:Nat} {us:List UV} {tl:List Value} (h:UH w b us tl) (m:Nat):∃tl',UH w b (us.take m) tl':=
 ⟨(us.drop m).flatMap Dt++tl,fun u hu=>h.1 u (List.mem_of_mem_take hu),by have:=h.2;rwa [←List.append_assoc,←List.flatMap_append,List.take_append_drop]⟩
theorem US.head {w:World} {B q c m:Nat} {A:Option Addr} {us:List UV} (h:US w B (.slice A q c) us) (hq:q=us.length) (hm:m≤q):USo w B (.slice A m c) (us.take m):=by
 rcases h with ⟨h1,h2⟩ | ⟨g,tl,c',h1,h2,h3⟩
 ·subst h1;injection h2 with h2 h3 h4;obtain rfl:m=0:=by omega
  subst h2 h4;exact .inl ⟨rfl,rfl⟩
 ·injection h1 with h1 h4 h5;subst h1 h5;obtain⟨aA,h6⟩:=h2.cut m;have hl:(us.take m).length=m:=by rw[List.length_take];omega
  exact .inr ⟨g,0,aA,c,[],by rw[hl],by simp,by simpa using h6,h3⟩
theorem US.tail {w:World} {B q c m:Nat} {A:Option Addr} {us:List UV} (h:US w B (.slice A q c) us) (hq:q=us.length) (hm:m≤q) (hc:q≤c):USo w B (.slice (if c=m then A else A.map fun x=>x.add (m*129)) (q-m) (c-m)) (us.drop m):=by
 have hl:(us.drop m).length=q-m:=by rw[List.length_drop];omega
 rcases h with ⟨h1,h2⟩ | ⟨g,tl,c',h1,h2,h3⟩
 ·subst h1;injection h2 with h2 h3 h4;obtain rfl:m=0:=by omega
  subst h2 h4 h3;exact .inl ⟨rfl,by simp⟩
 ·injection h1 with h1 h4 h5;subst h1 h5;by_cases e:c=m
  ·rw[if_pos e];have h0:us.drop m=[]:=List.drop_eq_nil_of_le (by omega);obtain⟨aA,h6⟩:=h2.cut 0;rw[←hl,h0];exact .inr ⟨g,0,aA,c-m,[],rfl,by simp,by simpa using h6,h3⟩
  ·rw[if_neg e,←hl];have h7:(us.take m).length=m:=by rw[List.length_take];omega
   exact .inr ⟨g,m*129,tl,c-m,us.take m,by simp[Addr.add];intro h;omega,by rw[h7],by rw[List.take_append_drop];exact h2,h3⟩
theorem USo.form2 {w:World} {B:Nat} {v:Value} {us:List UV} (h:USo w B v us):∀u∈us,u.Ok:=by
 rcases h with ⟨h1,h2⟩ | ⟨g,o,tl,c,pre,h1,h2,h3,h4⟩
 ·subst h1;intro u hu;cases hu
 ·exact fun u hu=>h3.1 u (List.mem_append_right _ hu)
theorem B6a:((Tryz.prog.info? 34).bind (·.zero))=some (.agg #[.int .i64 0,.pointer none,.int .i64 0,.map none]):=by kernel_rfl
theorem B2e:RA' 34 #[.int .i64 0,.pointer none,.int .i64 0,.map none]:=fun w ρ dst ty pos after guard=>Q0 w ρ dst ty pos after guard 34 (.agg #[.int .i64 0,.pointer none,.int .i64 0,.map none]) B6a
theorem Ax.at_ {w:World} {x:Int} {ap:Option Addr} {mb:Option Nat} {e N:Nat} {L:List En} {t:Tr} (h:Ax w (.agg #[.int .i64 x,.pointer ap,.int .i64 0,.map mb]) e L N) (ht:IsTree t L):At w w.heap.size t (.pointer ap):=by
 obtain⟨aA,mv,m,s,h1,h2,h3,h4,h5,h6,h7⟩:=h;have h8:=congrArg (fun v=>match v with | .agg a=>a.toList | _=>[]) h1;simp at h8;obtain rfl:=ht.uniq ⟨h5,h6⟩;rw[h8.2.1];exact h7
attribute [local go_sem ↓ high] Rm Td
theorem dirOrder_any (v:Value) (l:List Int) (cut:Int) (w:World) (hv:Ns w w.heap.size v l):Calls Tryz.prog 4 #[v,.int .i64 cut] w fun x w'=>x=.returned (.bool true)∧Below w.heap.size w w':=by
 have HA:=Lib.hid hv;obtain⟨A,c,rfl,fQ,gW,_⟩:=hv;obtain⟨n,hn⟩:=H8 (l.length);have HN:=Lib.hid hn;rw[←hn]at HA fQ ⊢;clear hn;have fR:=@run_makeMap Tryz.prog;have eA:(Vs (Un 129)).cells.size=129:=by simp[Vs,Dt,Un,Value.cells]
 go_enter Tryz.func4,Tryz.ntmps4;go_wp2_with fail;refine (B1v w).mono ?_;rintro x w1 ⟨rfl,b1⟩;obtain⟨W0,cE⟩:=H8 (w1.alloc (.map #[] 0));have B0:=Jx cE b1;have I0:OrI w W0 w1.heap.size 0 [] (.slice none 0 0):=⟨⟨fun u h=>(by cases h),World.ownsRow_nil _ _ _ _⟩,by rw[cE];exact MapS.made w1,⟨fun k h=>(by cases h),List.Pairwise.nil⟩,b1.size,B0⟩;go_wp2_with fail;rw[←cE];clear cE B0 fR b1;generalize w1.heap.size=b at *;go_loopw [5,21] (fun lv x wr=>∃(i:Nat) (ks:List Nat),i≤n∧x=.int .i64 (i:Int)∧OrI w wr b ks.length ks lv∧ks.length≤i∧ks.length≤9) (fun _ x _=>n-(intOf x).toNat)
 case atStart=>exact ⟨0,[],by omega,rfl,I0,by simp,by simp⟩
 case round=>
  clear I0;obtain⟨i,ks,hi,rfl,I,fS,eB⟩:=hrel;by_cases hlt:i<n
  ·have hd:decide ((i:Int)<(n:Int))=true:=decide_eq_true (by omega);have eC:=decide_eq_true hlt;obtain⟨a,ha⟩:∃a,l[i]?=some a:=⟨_,List.getElem?_eq_getElem (by rw[←HN.out];exact hlt)⟩;obtain⟨g,o,rfl,hg,hc⟩:=HA.out.at_ ha;have bH:wr.cell? ⟨g,o+i,none⟩=some (.int .i64 a):=by rw[I.below.cell (p:=⟨g,o+i,none⟩) hg];exact hc
   obtain⟨k,eD⟩:=H8 (B3f a);have hk:=C2z a;have fT:=Ta a;have hr:=B2w a;have fU:=B4q a;rw[←eD]at hk hr fU;have aB:=I.mc.look hk;have gX:=B6y (k:=k) (Nat.lt_trans hk (by decide));have gY:=B2i hk;have gZ:=C1b hk;clear eD ha hc;by_cases h9:i<9
   ·have fV:decide ((i:Int)<9)=true:=decide_eq_true (by omega);have cZ:=decide_eq_true h9;by_cases hm:k∈ks
    ·rw[if_pos hm]at aB;go_wp2_with fail;go_roundw;case rel=>exact ⟨i+1,ks,by omega,by go_num,I,by omega,eB⟩
     case measure=>simp[intOf];omega
    ·rw[if_neg hm]at aB;obtain⟨D5,eE,bI⟩:=I.mc.put hk;have fW:ks.length<maxLen:=by unfold maxLen;omega
     have dB:=B8z hk;go_wp2_with (at_mapUpdate;refine wpList_mapUpdate_own _ rfl _ _ _ 59 rfl 3 3 Qm Tryz.underlying59 RI b ks.length D5 rfl eE fW _ _ (ki k) rfl rfl dB (.held (.int .i64 1)) [] rfl ?_;intro w6 aK aC);obtain⟨cF,eF,bJ⟩:=I.map hk hm aC (bI w6 aK);refine (A2v _ _ _ (A1m _ _) (Ga _) w6).mono ?_;rintro x w7 ⟨rfl,b7⟩;rw[C5a];obtain⟨u,hu⟩:=H8 (uo k);have cG:u.Ok:=by rw[hu];exact B7r k
     obtain⟨us,aH⟩:=H8 (ks.map uo);have dC:=cG.len;have aI:us.length=ks.length:=by rw[aH];simp
     have HL:=Lib.hid aI;have hE:us.length≤9:=by omega
     have HE:=Lib.hid (show (ks++[k]).map uo=us++[u] from by rw[aH,hu];simp);rw[←aH]at cF;rw[←hu];have dD:OwnU w7 w.heap.size u5 us:=⟨cF.1,Qb cF.2 b7 (Nat.le_refl _)⟩;have fX:=eF.below b7;have bK:=J5 bJ b7;have HI:=Lib.hid I.ow;have fY:=I.hb;obtain⟨Au,cu,rfl,_,_⟩:=Ez dD.2;clear hu aH aI cF eF bJ b7 eE bI aK aC aB I bH;go_wp2_with (at_builtin;refine B5i 39 63 (Vs (Un 129)) 129 136 Tryz.underlying39 A8q eA (by decide) (by decide) rfl _ _ rfl rfl dD.2 (Dt u) dC (A2m u) _ rfl rfl rfl (by omega) bK.size ?_;intro A8 c8 w8 fZ gD aD aU eG dE);have I8:OrI w w8 b (ks++[k]).length (ks++[k]) (.slice A8 (us.length+1) c8):=by
      refine ⟨⟨?_,?_⟩,?_,HI.out.snoc hk hm,fY,bK.trans aU⟩
      ·intro x hx;obtain⟨j,_,rfl⟩:=List.mem_map.1 hx;exact B7r j
      ·rw[HE.out];simpa using aD
      ·rw[List.length_append];exact fX.own dD.2 eG
     go_roundw;case rel=>exact ⟨i+1,ks++[k],by omega,by go_num,I8,by simp;omega,by have:=HL.out;simp;omega⟩
     case measure=>simp[intOf];omega
   ·have fV:decide ((i:Int)<9)=false:=decide_eq_false (by omega);have cZ:=decide_eq_false h9;go_wp2_with fail;go_roundw;case rel=>exact ⟨i+1,ks,by omega,by go_num,I,by omega,eB⟩
    case measure=>simp[intOf];omega
  ·have hd:decide ((i:Int)<(n:Int))=false:=decide_eq_false (by omega);have eC:decide (i<n)=false:=decide_eq_false (by omega);clear hlt;go_wp2_with fail;obtain⟨us,aH⟩:=H8 (ks.map uo);have aI:us.length=ks.length:=by rw[aH];simp
   have cH:=Lib.hid aH;have dF:=Lib.hid I.ow;obtain⟨Al,cl,rfl,aV,-⟩:=Ez I.lo.2;have hU:=I.lo.us;rw[←aH]at hU aV ⊢;have B1:=I.below;obtain⟨q,hq⟩:=H8 (us.length);have gE:q≤9:=by omega
   have HQ:=Lib.hid hq;rw[←hq]at hU aV ⊢;have eH:=Lib.hid aV;clear aH aI I fS hd eC hi hq aV;refine (Qt _ 0 [] 0 us _ wr (Ax.nil _) hU (by omega) (by rw[←HQ.out];omega) (by rw[←HQ.out];simp;omega) (fun x=>by rw[←HQ.out];simp[lookE];omega)).mono ?_;rintro x w2 ⟨hF,rfl,aW,b2⟩;rw[←HQ.out]at aW;obtain⟨aE,aG,rfl⟩:=aW.form;rw[show ((0+1:Nat):Int)=1 from rfl]at aW ⊢;rw[show (0+1:Nat)=1 from rfl]at aW;have eI:=(hU.below b2).more b2.size;have B2:=J5 B1 b2;have k0:=Bk.new w2 34 [.int .i64 0,.pointer none,.int .i64 0,.map none];have aF:=Fu 4 k0 (by simp);obtain⟨w3,aX⟩:=H8 (E0 (w2.alloc (Obj.cells #[.int .i64 0,.pointer none,.int .i64 0,.map none] 34)) ⟨w2.heap.size,0,none⟩ [.int .i64 1,.pointer aE,.int .i64 0,.map aG]);have kA:Bk w3 w2.heap.size 34 [.int .i64 1,.pointer aE,.int .i64 0,.map aG]:=by rw[aX];exact k0.puts (by simp)
   have b3:Below w2.heap.size w2 w3:=by rw[aX];exact C5 (Bi _ _) (Nat.le_refl _) _
   have bL:=aW.up b3;have HU:=Lib.hid ((eI.below b3).more b3.size);have B3:=J5 B2 b3;have dG:wrap64 ((q:Int)-1)=(q:Int)-1:=by unfold wrap64;omega
   clear k0 aW hU eI B1 B2 b2 b3;go_wp2_with fail;rw[←aX];clear aX aF;generalize w2.heap.size=gA at *;have O0:OwnU w3 w3.heap.size (.slice none 0 0) (us.drop q).reverse:=by
    rw[List.drop_eq_nil_of_le (by rw[←HQ.out];omega)];exact ⟨fun u h=>(by cases h),World.ownsRow_nil _ _ _ _⟩
   go_loopw [11,12] (fun bv x wr2=>∃(j:Nat),j≤q∧x=.int .i64 ((j:Int)-1)∧OwnU wr2 w3.heap.size bv (us.drop j).reverse∧Below w3.heap.size w3 wr2) (fun _ x _=>(intOf x+1).toNat)
   case atStart=>exact ⟨q,Nat.le_refl _,rfl,O0,Below.refl _ _⟩
   case round=>
    clear O0;obtain⟨j,hj,rfl,hO,bW⟩:=hrel;cases j with
    | succ p=>
     rw[show ((p+1:Nat):Int)-1=(p:Int) from by omega];have hd:decide (0≤(p:Int))=true:=decide_eq_true (by omega);have bM:p<us.length:=by rw[←HQ.out];omega
     obtain⟨u,hu⟩:∃u,us[p]?=some u:=⟨_,List.getElem?_eq_getElem bM⟩;obtain⟨gl,tl,rfl,dH,hG⟩:∃gl tl,Al=some ⟨gl,0,none⟩∧UH wr gl us tl∧gl<w3.heap.size:=by
      rcases HU.out with ⟨h1,_⟩ | ⟨g,tl,c',h1,h2,h3⟩
      ·rw[h1]at bM;simp at bM
      ·injection h1 with h1;exact ⟨g,tl,h1,h2.below bW h3,h3⟩
     have cG:u.Ok:=dH.1 u (List.mem_of_getElem? hu);have hJ:=dH.row hu;have dC:=cG.len;have hY:wrap64 ((p:Int)-1)=(p:Int)-1:=by unfold wrap64;omega
     obtain⟨vs,cI⟩:=H8 ((us.drop (p+1)).reverse);have HV:=Lib.hid (show (us.drop p).reverse=vs++[u] from by rw[cI,List.drop_eq_getElem_cons bM,List.reverse_cons,(List.getElem?_eq_some_iff.1 hu).2]);have iA:vs.length≤9:=by have:=HQ.out;rw[cI];simp;omega
     rw[←cI]at hO;obtain⟨Av,cv,rfl,_,_⟩:=Ez hO.2;clear cI bM hu dH;go_wp2_with (at_builtin;refine B5i 39 63 (Vs (Un 129)) 129 136 Tryz.underlying39 A8q eA (by decide) (by decide) rfl _ _ rfl rfl hO.2 (Dt u) dC (A2m u) _ rfl rfl rfl (by omega) bW.size ?_;intro A8 c8 w8 fZ gD aD aU eG dE);have O8:OwnU w8 w3.heap.size (.slice A8 (vs.length+1) c8) (us.drop p).reverse:=by
      rw[HV.out];refine ⟨fun x hx=>?_,by simpa using aD⟩;rcases List.mem_append.1 hx with hx | hx
      ·exact hO.1 x hx
      ·simp at hx;subst hx;exact cG
     go_roundw;case rel=>exact ⟨p,by omega,by go_num,O8,bW.trans aU⟩
     case measure=>simp[intOf]
    | zero=>
     rw[show ((0:Nat):Int)-1=-1 from by omega];rw[List.drop_zero]at hO;have B4:=J5 B3 bW;have bN:=bL.up bW;have aY:=kA.bl bW;have eJ:=Lib.hid ((HU.out.below bW).more bW.size);have cJ:US wr wr.heap.size u11 us.reverse:=hO.us;go_wp2_with fail;obtain⟨Ab,cb,rfl⟩:=cJ.form;have bO:us.reverse.length=q:=by rw[List.length_reverse];exact HQ.out.symm
     rw[bO]at cJ ⊢;refine (Qt _ 0 [] 0 us.reverse _ wr (Ax.nil _) cJ (by omega) (by rw[bO];omega) (by rw[bO];simp;omega) (fun x=>by rw[bO];simp[lookE];omega)).mono ?_;rintro x w5 ⟨iB,rfl,aZ,b5⟩;rw[bO]at aZ;obtain⟨bA,bB,rfl⟩:=aZ.form;rw[show ((0+1:Nat):Int)=1 from rfl]at aZ ⊢;rw[show (0+1:Nat)=1 from rfl]at aZ;have B5:=J5 B4 b5;have k0:=Bk.new w5 34 [.int .i64 0,.pointer none,.int .i64 0,.map none];have aF:=Fu 4 k0 (by simp);obtain⟨w6,bC⟩:=H8 (E0 (w5.alloc (Obj.cells #[.int .i64 0,.pointer none,.int .i64 0,.map none] 34)) ⟨w5.heap.size,0,none⟩ [.int .i64 1,.pointer bA,.int .i64 0,.map bB]);have kB:Bk w6 w5.heap.size 34 [.int .i64 1,.pointer bA,.int .i64 0,.map bB]:=by rw[bC];exact k0.puts (by simp)
     have b6:Below w5.heap.size w5 w6:=by rw[bC];exact C5 (Bi _ _) (Nat.le_refl _) _
     have bP:=aZ.up b6;have bQ:=J5 b5 b6;have bR:=bN.up bQ;have bD:=aY.bl bQ;have eK:=Lib.hid ((eJ.out.below bQ).more bQ.size);have B6:=J5 B5 b6;obtain⟨m,hm⟩:=H8 ((Ib cut).toNat % (q+1));have eL:m≤q:=by have:=Nat.mod_lt (Ib cut).toNat (show 0<q+1 by omega);omega
     have dI:=Ta cut;have gF:wrap64 ((q:Int)+1)=(q:Int)+1:=by unfold wrap64;omega
     have gG:=Lib.hid hm;clear k0 aZ bQ b6 b5 B4 B5 bN aY cJ hO B3 bL kA bW hm hj dG HU eJ;go_wp2_with fail;have bS:=C1z (Ib cut) gE gG.out;rw[←bC,bS];clear bC aF dI gF bS;generalize w5.heap.size=gB at *;have S0:=Eo w6;have dJ:=Lib.hid ((eK.out.below S0).more S0.size);have bT:=bR.up S0;have bU:=bP.up S0;have aL:=bD.bl S0;have aM:=kB.bl S0;have B7:=J5 B6 S0;clear bR bP bD kB B6 eK;have HT:=Lib.hid (dJ.out.head HQ.out eL);have HR:=Lib.hid (dJ.out.tail HQ.out eL eH.out);have aV:=eH.out;refine Dm (fun X=>True) ?_;refine Cf (A:=?iC) [0,1,2,3,5,6,7] trivial (fun X hX=>?dG) ?iD;case dG=>exact Dd
     obtain⟨vt,eM⟩:=H8 (Value.slice (if cl=m then Al else Option.map (fun x=>x.add (m*129)) Al) (q-m) (cl-m));rw[←eM]at HR ⊢;clear eM aV;have eN:(us.take m).length=m:=by rw[List.length_take];have:=HQ.out;omega
     have eO:(us.drop m).length=q-m:=by rw[List.length_drop,←HQ.out]
     have eP:=Uq OkE.nil HT.out.form2;have HG:=Lib.hid eP;clear eP;have gH:m≤9:=by omega
     have aP:=Lib.hid eN;have cK:=Lib.hid eO;clear eN eO;refine J2 [⟨4,85,fun v W=>Ax W v (0+1) (applyE (us.take m) []) (0+(us.take m).length),false⟩,⟨8,89,fun v W=>Ax W v (0+1+1) (applyE (us.drop m) (applyE (us.take m) [])) (0+(us.take m).length+(us.drop m).length),false⟩,za 9 15 34 [.int .i64 0,.pointer none,.int .i64 0,.map none]] (by kernel_rfl) (fun X hX=>trivial) ?mo ?st ?re;case mo=>exact N7 ⟨fun _ _ _ h hb=>h.up hb,N7 ⟨fun _ _ _ h hb=>h.up hb,N7 ⟨B0u _ _ _ _,fun _ h=>by cases h⟩⟩⟩
     case st=>
      refine N7 ⟨?s4,N7 ⟨?s8,N7 ⟨?s9,fun _ h=>by cases h⟩⟩⟩;case s4=>
       intro o ho bE X hX hp Q' hQ';obtain rfl:=Option.some.inj ho;clear hp ho;rw[C8]at hQ' ⊢;dsimp only[F8,I2,List.foldl,za]at hQ' ⊢;simp only[Bu];have HX:=Lib.hid ((HT.out.below hX).more hX.size);go_wp2_with fail;refine (Ou _ 0 [] 0 (us.take m) _ X (Ax.nil _) HX.out (by omega) (by rw[aP.out];omega) (by rw[aP.out];simp;omega) (fun x=>by rw[aP.out];simp[lookE];omega)).mono ?_;rintro x X2 ⟨dv,rfl,hd,b2⟩;go_wp2_with fail;exact Cm (hQ' _ _ b2 hd nofun)
      case s8=>intro o ho bE X hX hp Q' hQ';obtain rfl:=Option.some.inj ho;have gI:Ax X (bE 4) (0+1) (applyE (us.take m) []) (0+(us.take m).length):=hp 0 _ rfl (by kernel_rfl);clear hp ho;rw[C8]at hQ' ⊢;dsimp only[F8,I2,List.foldl,za]at hQ' ⊢;simp only[Bu];have HX:=Lib.hid ((HR.out.below hX).more hX.size);go_wp2_with fail;refine (Ou (bE 4) (0+1) (applyE (us.take m) []) (0+(us.take m).length) (us.drop m) vt X gI HX.out (by omega) (by rw[aP.out,cK.out];omega) (by have:=HG.out.2.1;rw[aP.out]at this;rw[cK.out];simp at this;omega) (fun x=>by have:=HG.out.2.2 x;rw[aP.out]at this;rw[cK.out];simp[lookE]at this;omega)).mono ?_;rintro x X2 ⟨dv,rfl,hd,b2⟩;go_wp2_with fail;exact Cm (hQ' _ _ b2 hd nofun)
      case s9=>exact M8 rfl rfl (fun ρ W=>B2e W ρ _ _ _ _ _)
     case re=>
     intro bE W1 bb dK dL eQ;have hC:Ax W1 (bE 8) (0+1+1) (applyE (us.drop m) (applyE (us.take m) [])) (0+(us.take m).length+(us.drop m).length):=dK _ (M6 1 rfl);obtain⟨gC,bV,kC⟩:=dK _ (M6 2 rfl);have bV:bE 9=.pointer (some ⟨gC,0,none⟩):=bV;have cL:=Ac (eQ _ (M6 2 rfl) rfl) bV;obtain⟨bF,bG,dM⟩:=hC.form;rw[dM]at hC;rw[C8];dsimp only[I2,List.foldl,za];simp only[Bu];rw[dM,bV];clear dK dL eQ dM bV;rw[A3k]at hC;rw[show ((0+1+1:Nat):Int)=2 from rfl]at hC ⊢;have bX:=bT.up bb;have bY:=bU.up bb;have eR:=aL.bl bb;have eS:=aM.bl bb;have BW:=J5 B7 bb;have gJ:=Nat.lt_of_lt_of_le aL.lt cL.1;have gK:=Nat.lt_of_lt_of_le aM.lt cL.1;have eT:=Nat.le_trans B7.size cL.1;have aF:=Fu 4 kC (by simp);obtain⟨W2,aJ⟩:=H8 (E0 W1 ⟨gC,0,none⟩ [.int .i64 2,.pointer bF,.int .i64 0,.map bG]);have eU:Bk W2 gC 34 [.int .i64 2,.pointer bF,.int .i64 0,.map bG]:=by rw[aJ];exact kC.puts (by simp)
     have eV:Bk W2 gA 34 [.int .i64 1,.pointer aE,.int .i64 0,.map aG]:=by rw[aJ];exact eR.putFar (by simp;omega) _
     have eW:Bk W2 gB 34 [.int .i64 1,.pointer bA,.int .i64 0,.map bB]:=by rw[aJ];exact eS.putFar (by simp;omega) _
     have cM:Ax W2 (.agg #[.int .i64 1,.pointer aE,.int .i64 0,.map aG]) 1 (applyE us []) (0+q):=by rw[aJ];exact bX.put kC (Wn _ _ _ _) (by decide)
     have cN:Ax W2 (.agg #[.int .i64 1,.pointer bA,.int .i64 0,.map bB]) 1 (applyE us.reverse []) (0+q):=by rw[aJ];exact bY.put kC (Wn _ _ _ _) (by decide)
     have eX:Ax W2 (.agg #[.int .i64 2,.pointer bF,.int .i64 0,.map bG]) 2 (applyE us []) (0+(us.take m).length+(us.drop m).length):=by rw[aJ];exact hC.put kC (Wn _ _ _ _) (by decide)
     have B2:Below w.heap.size w W2:=by rw[aJ];exact C5 BW eT _
     clear bX bY eR eS BW bT bU aL aM B7 bb cL gJ gK eT kC hC HT HR dJ HG aP cK;refine U0 10 fun Q' hQ'=>?_;dsimp only[F8];go_wp2_with fail;rw[←aJ];refine hQ' _ _ trivial ?_;clear hQ' aF aJ;refine Cu ?_;obtain⟨t,ht⟩:=cM.tree;have eY:IsTree t (applyE us.reverse []):=by
      obtain⟨s,hs⟩:=cN.tree;have e1:us.reverse=(ks.reverse).map uo:=by rw[cH.out,List.map_reverse]
      have e2:=B3b cM.okE cN.okE (fun x=>by rw[e1,cH.out];exact dF.out.same dF.out.rev (fun k=>by simp) x) ht hs;rw[e2];exact hs
     have gL:t.len=q:=by rw[Tr.len_pairs,ht.prs,Ec,cH.out,dF.out.apply.2.1,HQ.out,cH.out,List.length_map]
     have eZ:=t.root_length;have cO:=Lib.hid ht;have gM:=Lib.hid eY;clear ht eY;go_wp2_with fail;have S0:=Eo W2;have dN:=cM.up S0;have dO:=eV.bl S0;have fD:=cN.up S0;have dP:=eW.bl S0;have fE:=eX.up S0;have dQ:=eU.bl S0;have B3:=J5 B2 S0;clear S0 B2 cM cN eX eV eW eU;refine Dm (fun X=>Bk X gA 34 [.int .i64 1,.pointer aE,.int .i64 0,.map aG]∧Bk X gB 34 [.int .i64 1,.pointer bA,.int .i64 0,.map bB]∧Bk X gC 34 [.int .i64 2,.pointer bF,.int .i64 0,.map bG]) ?_;refine Cf (A:=?iE) [0,2] ⟨dO,dP,dQ⟩ (fun X hX=>?gN) ?iF;case gN=>have fA:I6 X ⟨gA,0,none⟩ 4=some [.int .i64 1,.pointer aE,.int .i64 0,.map aG]:=hX.1.rows;have fB:I6 X ⟨gB,0,none⟩ 4=some [.int .i64 1,.pointer bA,.int .i64 0,.map bB]:=hX.2.1.rows;exact Dd
     refine U0 1 fun Q' hQ'=>?_;dsimp only[F8];have aA:=Lib.hid hQ';clear hQ';go_wp2_with fail;refine (Lh dN cO.out).mono ?_;rintro x w4 ⟨rfl,b4⟩;have fF:=dN.up b4;have aY:=dO.bl b4;have dR:=fD.up b4;have dS:=dP.bl b4;have fG:=fE.up b4;have dT:=dQ.bl b4;have B4:=J5 B3 b4;clear b4 B3 dN dO fD dP fE dQ;go_wp2_with fail;refine aA.out _ _ ⟨aY,dS,dT⟩ ?_;clear aA;refine U0 3 fun Q' hQ'=>?_;dsimp only[F8];have aA:=Lib.hid hQ';clear hQ';go_wp2_with fail;refine (Lh dR gM.out).mono ?_;rintro x w5 ⟨rfl,b5⟩;have dU:=fF.up b5;have cP:=aY.bl b5;have fH:=dR.up b5;have cQ:=dS.bl b5;have fI:=fG.up b5;have cR:=dT.bl b5;have B5:=J5 B4 b5;clear b5 B4 fF aY dR dS fG dT;go_wp2_with fail;refine aA.out _ _ ⟨cP,cQ,cR⟩ ?_;clear aA;refine Cf (A:=?iG) [4,5,6,8] ⟨cP,cQ,cR⟩ (fun X hX=>?gO) ?iH;case gO=>
      have fA:I6 X ⟨gA,0,none⟩ 4=some [.int .i64 1,.pointer aE,.int .i64 0,.map aG]:=hX.1.rows;have fC:I6 X ⟨gC,0,none⟩ 4=some [.int .i64 2,.pointer bF,.int .i64 0,.map bG]:=hX.2.2.rows;simp only[List.append_eq,Vq,Bv,Sb];repeat (go_big_quiet_step (fail))
      refine wpQuiet_nil ?_;rfl
     refine U0 7 fun Q' hQ'=>?_;dsimp only[F8];have aA:=Lib.hid hQ';clear hQ';go_wp2_with fail;refine (Lh dU cO.out).mono ?_;rintro x w6 ⟨rfl,b6⟩;have fJ:=dU.up b6;have bD:=cP.bl b6;have bJ:=fH.up b6;have dV:=cQ.bl b6;have dW:=fI.up b6;have dX:=cR.bl b6;have B6:=J5 B5 b6;clear b6 B5 dU cP fH cQ fI cR;go_wp2_with fail;refine aA.out _ _ ⟨bD,dV,dX⟩ ?_;clear aA;refine U0 9 fun Q' hQ'=>?_;dsimp only[F8];have aA:=Lib.hid hQ';clear hQ';go_wp2_with fail;refine (Lh dW cO.out).mono ?_;rintro x w7 ⟨rfl,b7⟩;have dY:=fJ.up b7;have aL:=bD.bl b7;have bK:=bJ.up b7;have aM:=dV.bl b7;have fK:=dW.up b7;have cS:=dX.bl b7;have B7:=J5 B6 b7;clear b7 B6 fJ bD bJ dV dW dX;go_wp2_with fail;refine aA.out _ _ ⟨aL,aM,cS⟩ ?_;clear aA;refine Cf (A:=?iI) [10,11,12,13] ⟨aL,aM,cS⟩ (fun X hX=>?aX) ?iJ;case aX=>
      have fA:I6 X ⟨gA,0,none⟩ 4=some [.int .i64 1,.pointer aE,.int .i64 0,.map aG]:=hX.1.rows;simp only[List.append_eq,Vq,Bv,Sb];repeat (go_big_quiet_step (fail))
      refine wpQuiet_nil ?_;rfl
     refine U0 14 fun Q' hQ'=>?_;dsimp only[F8];have aA:=Lib.hid hQ';clear hQ';go_wp2_with fail;refine (Uf dY).mono ?_;rintro x w8 ⟨rfl,b8⟩;have fL:=dY.up b8;have cT:=aL.bl b8;have aU:=bK.up b8;have cU:=aM.bl b8;have dZ:=fK.up b8;have cV:=cS.bl b8;have B8:=J5 B7 b8;clear b8 B7 dY aL bK aM fK cS;go_wp2_with fail;refine aA.out _ _ ⟨cT,cU,cV⟩ ?_;clear aA;refine Cf (A:=?iK) [15,16,17,18] ⟨cT,cU,cV⟩ (fun X hX=>?gP) ?iL;case gP=>
      have fC:I6 X ⟨gC,0,none⟩ 4=some [.int .i64 2,.pointer bF,.int .i64 0,.map bG]:=hX.2.2.rows;simp only[List.append_eq,Vq,Bv,Sb];repeat (go_big_quiet_step (fail))
      refine wpQuiet_nil ?_;rfl
     refine U0 19 fun Q' hQ'=>?_;dsimp only[F8];have aA:=Lib.hid hQ';clear hQ';go_wp2_with fail;refine (Uf dZ).mono ?_;rintro x w9 ⟨rfl,b9⟩;have fM:=fL.up b9;have cW:=cT.bl b9;have fN:=aU.up b9;have cX:=cU.bl b9;have fO:=dZ.up b9;have cY:=cV.bl b9;have B9:=J5 B8 b9;clear b9 B8 fL cT aU cU dZ cV;go_wp2_with fail;refine aA.out _ _ ⟨cW,cX,cY⟩ ?_;clear aA;refine Cf (A:=?iM) [20,21,22,23,26,27] ⟨cW,cX,cY⟩ (fun X hX=>?gQ) ?iN;case gQ=>
      have fA:I6 X ⟨gA,0,none⟩ 4=some [.int .i64 1,.pointer aE,.int .i64 0,.map aG]:=hX.1.rows;simp only[List.append_eq,Vq,Bv,Sb];repeat (go_big_quiet_step (fail))
      refine wpQuiet_nil ?_;rfl
     refine U0 24 fun Q' hQ'=>?_;dsimp only[F8];have aA:=Lib.hid hQ';clear hQ';go_wp2_with fail;refine (B3m 1 aE 0 (.map aG) w9).mono ?_;rintro x gR ⟨rfl,aN⟩;have aQ:=fM.up aN;have aR:=cW.bl aN;have bZ:=fN.up aN;have aS:=cX.bl aN;have cA:=fO.up aN;have aT:=cY.bl aN;have fP:=J5 B9 aN;clear aN B9 fM cW fN cX fO cY;go_wp2_with fail;refine aA.out _ _ ⟨aR,aS,aT⟩ ?_;clear aA;refine U0 25 fun Q' hQ'=>?_;dsimp only[F8];have aA:=Lib.hid hQ';clear hQ';go_wp2_with fail;refine (Gk t (.pointer aE) 0 gR (aQ.at_ cO.out)).mono ?_;rintro x iO ⟨rfl,aO⟩;have gS:=aQ.up aO;have cB:=aR.bl aO;have gT:=bZ.up aO;have cC:=aS.bl aO;have gU:=cA.up aO;have cD:=aT.bl aO;have gV:=J5 fP aO;clear aO fP aQ aR bZ aS cA aT;go_wp2_with fail;refine aA.out _ _ ⟨cB,cC,cD⟩ ?_;clear aA;refine Cf (A:=?iP) [28,29,30] ⟨cB,cC,cD⟩ (fun X hX=>?bC) ?iQ;case bC=>
      simp only[List.append_eq,Vq,Bv,Sb];repeat (go_big_quiet_step (fail))
      refine wpQuiet_nil ?_;rfl
     refine Cu ?_;go_wp2_with fail;go_ret;exact ⟨rfl,gV⟩
end
end Go.Proofs.YtlegpkdighoflaaGreat
