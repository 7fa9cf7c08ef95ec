/- A part of the proof of AuditTells. -/
import Derived.Test.YtmllnpokbbabhaaGreatTbo
set_option linter.unusedVariables false
set_option linter.unusedSimpArgs false
set_option maxRecDepth 100000
set_option maxHeartbeats 40000000
namespace Go.Proofs.YtmllnpokbbabhaaGreat
open Go Go.RowKit Sh
section
theorem MapV.lookz {t e:TypeId} {z:Value} (c:Bool) (ht:Tryz.prog.underlying t=some (.map 40 e)) (hz:∀w,(zeroValue e).run Tryz.prog w=.ok z w) {w:World} {b n:Nat} {m:List UInt8→Option Value} (h:MapV w b n m) {k:List UInt8} (hk:k.length=32) :
 (Instr.lookup t (.map (some b)) (A8 k) c).run Tryz.prog w=.ok (if c then .tuple #[(m k).getD z,.bool (m k).isSome] else (m k).getD z) w:=by
 obtain⟨D,⟨es,aA,hb,F,_,rfl⟩,hl⟩:=h;obtain⟨_,h2⟩:=hl k hk;rcases Maps.fit_look c Cd ht (hz w) hb F (Fx hk) with ⟨hrun,_,hat⟩ | ⟨e0,y,_,_,hrun,hRv,hat,_⟩
 ·cases hm:m k with
  | none=>exact hrun
  | some v=>
   have h3:=h2 .nil;rw[hat,hm]at h3;cases h3
 ·have hy:y.1=.held e0.val:=by have:some (DataW.held e0.val,([]:List MemPlace))=some y:=hRv;injection this with this;rw[←this]
  cases hm:m k with
  | none=>
   have h3:=h2 .nil;rw[hat,hm,hy]at h3;cases h3
  | some v=>
   have h3:=h2 .nil;rw[hat,hm,hy]at h3;injection h3 with h3;rw[←h3];exact hrun
theorem MapV.look_ {t e:TypeId} (c:Bool) (ht:Tryz.prog.underlying t=some (.map 40 e)) (hz:∀w,(zeroValue e).run Tryz.prog w=.ok (.slice none 0 0) w) {w:World} {b n:Nat} {m:List UInt8→Option Value} (h:MapV w b n m) {k:List UInt8} (hk:k.length=32) :
 (Instr.lookup t (.map (some b)) (A8 k) c).run Tryz.prog w=.ok (if c then .tuple #[gd0 m k,.bool (m k).isSome] else gd0 m k) w:=h.lookz c ht hz hk
theorem A9x (w:World):(zeroValue 36).run Tryz.prog w=.ok (.slice none 0 0) w:=by kernel_rfl
theorem US.oks {w:World} {B:Nat} {v:Value} {us:List UV} (h:US w B v us):∀u∈us,u.Ok:=by
 rcases h with ⟨rfl,_⟩ | ⟨g,tl,c',h1,h2,h3⟩
 ·intro u hu;cases hu
 ·exact h2.1
theorem US.row_ {w:World} {B n c:Nat} {A:Option Addr} {us:List UV} (h:US w B (.slice A n c) us) {i:Nat} {u:UV} (hu:us[i]?=some u):∃g,A=some ⟨g,0,none⟩∧g<B∧C4 w ⟨g,i*129,none⟩ 129=some (N9 u)∧u.Ok:=by
 rcases h with ⟨h1,_⟩ | ⟨g,tl,c',h1,h2,h3⟩
 ·rw[h1]at hu;simp at hu
 ·injection h1 with h1;exact ⟨g,h1,h3,h2.row hu,h2.1 u (List.mem_of_getElem? hu)⟩
theorem C2l {x:List UInt8} {ks:List (List UInt8)} {us:List UV} (hx:x.length=32) (hk:∀k∈ks,k.length=32) (hn:ks.length≤1000) (hu:∀u∈us,u.Ok) (hm:us.length≤12):(goB x ks us).length≤40000:=by
 unfold goB hbL;simp only[List.length_append,Q9,hx,Cc hk,Kn hu];omega
theorem Pi {α:Type} {f:α→List UInt8} {c:Nat}:∀ {s:List α},(∀x∈s,(f x).length≤c)→(s.flatMap f).length≤s.length*c
 | [],_=>by simp
 | x::s,h=>by
  have h1:=h x (by simp);have h2:=Pi (f:=f) (s:=s) fun y hy=>h y (List.mem_cons_of_mem _ hy);rw[List.flatMap_cons,List.length_append,List.length_cons,Nat.succ_mul];omega
theorem Lg {i n:Nat} (h:i<n):n-(intOf (.int .i64 ((i:Int)+1))).toNat<n-(intOf (.int .i64 (i:Int))).toNat:=by
 simp only[intOf];omega
theorem Cv:∀(us:List UV) (L:List En),(Ee us L).length≤us.length
 | [],_=>Nat.zero_le _
 | u::us,L=>by
  unfold Ee;split
  ·have:=Cv us (Cj u.id u.key L);simp;omega
  ·have:=Cv us L;simp;omega
attribute [local go_sem ↓ high] El
theorem A6w (dv:Value) (e N:Nat) (L:List En) (us:List UV) (v:Value) (w:World) (t:Tr) (hD:DirIs w dv e L N) (ht:IsTree t L) (hU:US w w.heap.size v us) (hn:us.length≤12) (hL:L.length≤1000) (hks:∀x,(lookE L x).length≤1000) :
 Calls Tryz.prog 9 #[dv,v] w fun x w'=>∃u S,x=.returned u∧J0 w' w.heap.size u (Oy (t.cut S 0).bytes (S.map fun x=>(x,lookE L x,moreE us L x)))∧S.Pairwise blt∧S.Nodup∧(∀x,x∈S↔moreE us L x≠[])∧Below w.heap.size w w':=by
 obtain⟨ap,mb,rfl⟩:=hD.form;obtain⟨A,c,rfl⟩:=hU.form;have aS:=hD.okE;obtain⟨n,eV⟩:=D9 (us.length);have HN:=Lib.hid eV;have cM:Hid (∀u∈us,u.Ok):=Lib.hid (hU.oks);rw[←eV]at hU hn ⊢;clear eV;have bL:=@run_makeMap Tryz.prog;obtain⟨dc,eW⟩:=D9 ([Value.int .i64 (e:Int),.pointer ap,.int .i64 0,.map mb]);obtain⟨W0,cJ⟩:=D9 (((w.alloc (Obj.cells #[.int .i64 (e:Int),.pointer ap,.int .i64 0,.map mb] 34)).alloc (.map #[] 0)).alloc (.map #[] 0));have B0:Below w.heap.size w W0:=by rw[cJ];exact ((U7 _ _).alloc (by simp) _).alloc (by simp;omega) _
 have I0:StI w W0 dc L [] (.slice none 0 0) [] (fun _=>none) (fun _=>none) 0:=by
  have kd:Bk (w.alloc (Obj.cells #[.int .i64 (e:Int),.pointer ap,.int .i64 0,.map mb] 34)) w.heap.size 34 dc:=by rw[eW];exact Bk.new w _ _
  have jQ:MapV ((w.alloc (Obj.cells #[.int .i64 (e:Int),.pointer ap,.int .i64 0,.map mb] 34)).alloc (.map #[] 0)) (w.heap.size+1) 0 (fun _=>none):=by simpa using MapV.made (w.alloc (Obj.cells #[.int .i64 (e:Int),.pointer ap,.int .i64 0,.map mb] 34))
  have jR:MapV W0 (w.heap.size+2) 0 (fun _=>none):=by rw[cJ];simpa using MapV.made ((w.alloc (Obj.cells #[.int .i64 (e:Int),.pointer ap,.int .i64 0,.map mb] 34)).alloc (.map #[] 0))
  refine ⟨by rw[cJ];exact (kd.alloc _).alloc _,?_,jR,OwnK.nil _ _,fun x v h=>(by cases h),fun x _=>rfl,fun x=>⟨fun u h=>(by cases h),World.ownsRow_nil _ _ _ _⟩,fun x y _=>.inl rfl,B0,Nat.le_refl _⟩;rw[cJ];exact jQ.below (U7 _ _) (Nat.le_refl _)
 have eX:=Lib.hid eW;clear eW;go_enter Tryz.func9,Tryz.ntmps9;go_wp2_with fail;rw[←cJ];clear cJ B0 bL;go_loopw [6,24] (fun iv jv wr=>∃(aA aH:List UV) (S:List (List UInt8)) (m1 m2:List UInt8→Option Value) (k:Nat),jv=.int .i64 (aA.length:Int)∧us=aA++aH∧StI w wr dc L aA iv S m1 m2 k∧S.Nodup∧(∀x,x∈S↔moreE aA L x≠[])) (fun _ jv _=>n-(intOf jv).toNat)
 case atStart=>exact ⟨[],us,[],_,_,0,rfl,rfl,I0,List.nodup_nil,fun x=>by simp[moreE,Ee]⟩
 case round=>
  clear I0;obtain⟨aA,aH,S,m1,m2,k,rfl,aD,I,aT,aJ⟩:=hrel;have cN:n=us.length:=HN.out;cases aH with
  | nil=>
   have eY:decide (aA.length<n)=false:=decide_eq_false (by rw[cN,aD];simp);rw[List.append_nil]at aD;subst aD;obtain⟨As,ct,rfl,-,-⟩:=I.ids.form;have cO:S.length≤12:=by
    have bM:S ⊆ (Ee us L).map (·.id):=fun x hx=>by
     have h2:=(aJ x).1 hx;cases hq:moreE us L x with
     | nil=>exact absurd hq h2
     | cons y l=>
      have hy:y∈moreE us L x:=by rw[hq];simp
      exact List.mem_map.2 ⟨y,(List.mem_filter.1 hy).1,Mu y hy⟩
    have:=Hf aT bM;have:=Cv us L;simp only[List.length_map]at *;omega
   have hc:=Lib.hid (C4w (w.heap.size+3) _ S wr I.ids cO aT);have HI:=Lib.hid I;have gX:=Lib.hid aJ;have bN:=Lib.hid aT;clear cN aJ aT hU;go_wp2_with fail;refine hc.out.mono ?_;rintro x w2 ⟨rfl,l,eZ,aE,cP,bO⟩;have I1:=HI.out;have lS:=I1.z;have bl:Below (w.heap.size+3) wr w2:=⟨bO.os,bO.tape,bO.output,bO.size,fun b hb=>bO.block b (by omega) (fun e2=>by have:=(I1.ids.2.lt b e2.symm).1;omega)⟩;have I2:=I1.grow eZ bl bO (.inl rfl);have cQ:=aE.nodup_iff.2 bN.out;have gY:S.length=l.length:=aE.length_eq.symm;have bC:∀x,x∈l↔moreE us L x≠[]:=fun x=>(aE.mem_iff).trans (gX.out x);have jS:l.length≤12:=by rw[aE.length_eq];exact cO
   have HS:=Lib.hid cP;have jT:=Lib.hid cQ;have jU:=Lib.hid bC;clear hc HI gX bN I1 bl bO cQ bC cO aE cP;have bP:C4 w2 ⟨w.heap.size,0,none⟩ 4=some [Value.int .i64 (e:Int),.pointer ap,.int .i64 0,.map mb]:=by have:=I2.box.rows;rwa [eX.out]at this
   rw[gY]at eZ I2 ⊢;obtain⟨m,hm⟩:=D9 (l.length);have fB:=Lib.hid hm;rw[←hm]at eZ I2 jS ⊢;clear hm gY;have cR:(t.cut l 0).bytes.length≤579001:=by
    have h1:=Xk ht.ok (by omega) l 0;have h2:t.len≤1000:=by rw[Tr.len_pairs,ht.prs,X1];exact hL
    have h3:t.len*(65+2*(257-0))≤1000*579:=Nat.mul_le_mul h2 (by omega);omega
   go_wp2_with fail;refine (C3x _ _ _ _ w2).mono ?_;rintro x w3 ⟨rfl,b3⟩;have I3:=I2.up b3;have gZ:=hD.up I3.below;have aF:=D8e gZ ht;have jV:t.len≤1000000000000:=by rw[Tr.len_pairs,ht.prs,X1];omega
   have iA:Hs w3 0 w3.heap.size (.slice As m ct) l:=(I3.ids.hs).less (Nat.zero_le _);have iB:=Lib.hid aF;have iC:=Lib.hid iA;clear I2 b3 aF iA;go_wp2_with fail;refine (D2w t P0 ht.ok jV (.pointer ap) _ l w3 (by rw[←fB.out];omega) iB.out iC.out).mono ?_;rintro x w4 ⟨rfl,b4⟩;have I4:=I3.up b4;clear I3 b4 iB iC gZ;go_wp2_with fail;refine (B7e (t.cut l 0) (D8w ht.ok _ _) (by omega) w4).mono ?_;rintro x w5 ⟨bv,rfl,iD,b5⟩;have I5:=I4.up b5;have iE:=Lib.hid iD.up;clear I4 b5 iD;go_wp2_with fail;refine (Uo (.slice none 0 0) bv [] _ w5 (.inl ⟨rfl,rfl⟩) iE.out (by simp) (by omega)).mono ?_;rintro x w6 ⟨cv,rfl,iF,b6⟩;have I6:=I5.up b6;have aO:B6e w6 cv (A4v [] (t.cut l 0).bytes):=.inr ⟨iF.up,by rw[Fz];omega,by rw[Fz];simp;omega⟩;have bD:=Lib.hid aO;have fC:IntKind.u64.wrap (m:Int)=E6 (UInt64.ofNat m):=by rw[Ep];unfold E6;simp
   clear I5 b6 iF aO iE;go_wp2_with fail;refine (Cu cv _ (UInt64.ofNat m) w6 bD.out (by rw[Fz];simp;omega)).mono ?_;rintro x w7 ⟨ov,rfl,bE,b7⟩;have iG:=I6.z;obtain⟨pl,eF⟩:=D9 (A4v [] (t.cut l 0).bytes++J8 (UInt64.ofNat m));rw[←eF]at bE;have jW:=Lib.hid eF;have jX:pl.length≤600000:=by rw[eF,List.length_append,Fz,Q9];simp;omega
   clear bD fC eF cR;have fD:∀x,(moreE us L x).length≤12:=fun x=>by
    have h1:(moreE us L x).length≤(Ee us L).length:=List.length_filter_le _ _;have h2:=Cv us L;have h3:=HN.out;omega
   have iH:∀x∈l,(goB x (lookE L x) (moreE us L x)).length≤40000:=fun x hx=>C2l (I6.ids.1 x hx) (Ru aS.key x) (hks x) (fun u hu=>cM.out u (Iv us L u (List.mem_filter.1 hu).1)) (fD x);have jY:=Lib.hid iH;have iI:=Lib.hid fD;clear iH fD;go_wp2_with fail;go_loopw [14,89] (fun av jv wr=>∃(s1 s2:List (List UInt8)),jv=.int .i64 (s1.length:Int)∧l=s1++s2∧J0 wr w6.heap.size av (pl++s1.flatMap fun x=>goB x (lookE L x) (moreE us L x))∧Below w6.heap.size w6 wr) (fun _ jv _=>m-(intOf jv).toNat)
   case atStart=>exact ⟨[],l,rfl,rfl,by simpa using bE,b7⟩
   case round=>
    clear bE b7;obtain⟨s1,s2,rfl,aD,bE,b8⟩:=hrel;have bC:m=l.length:=fB.out;cases s2 with
    | nil=>
     have eY:decide (s1.length<m)=false:=decide_eq_false (by rw[bC,aD];simp);rw[List.append_nil]at aD;subst aD;have jZ:=Lib.hid bE;clear bE bC;go_wp2_with fail;go_ret;refine ⟨_,l,rfl,?_,HS.out,jT.out,jU.out,I6.below.trans (b8.mono (by omega))⟩;have h1:=jZ.out.less (base':=w.heap.size) (by omega);have e1:pl++(l.flatMap fun x=>goB x (lookE L x) (moreE us L x))=Oy (t.cut l 0).bytes (l.map fun x=>(x,lookE L x,moreE us L x)):=by rw[jW.out,fB.out];simp[Oy,A4v,List.flatMap_map]
     rw[←e1];exact h1
    | cons x s3=>
     have eY:decide (s1.length<m)=true:=decide_eq_true (by rw[bC,aD];simp);have iJ:s1.length<m:=by rw[bC,aD];simp
     have I8:=I6.up b8;have bQ:=I6.ids.1 x (by rw[aD];simp);obtain⟨gi,oi,rfl,lT,fE⟩:=((I8.ids.hs).less (Nat.zero_le _)).at_ (m:=s1.length) (k:=x) (by rw[aD];simp);have bR:=(Bk.new wr 40 (c8 (z8 32))).can8 (n:=32) (by simp);obtain⟨w9,cS⟩:=D9 (C2 (wr.alloc (Obj.cells (c8 (z8 32)).toArray 40)) ⟨wr.heap.size,0,none⟩ (c8 x));have kx:Bk w9 wr.heap.size 40 (c8 x):=by rw[cS];exact Bk.fresh wr _ (by simp[bQ])
     have b9:Below wr.heap.size wr w9:=by rw[cS];exact C0 (U7 _ _) (Nat.le_refl _) _
     have fF:=X4 b8 b9;have I9:=I6.up fF;have bP:C4 w9 ⟨w.heap.size,0,none⟩ 4=some [Value.int .i64 (e:Int),.pointer ap,.int .i64 0,.map mb]:=by have:=I9.box.rows;rwa [eX.out]at this
     have eG:=Bk.row8 (n:=32) kx bQ;have iK:=Lib.hid aD;have iL:=Lib.hid (bE.below b9 (Nat.le_refl _));rw[cS]at bP eG;clear aD bE bC I8 b9;go_wp2_with fail;rw[←cS];clear cS bP eG bR fE;refine (A6g (hD.up I9.below) x bQ (Nat.le_trans (hks _) (by omega))).mono ?_;rintro y fG ⟨kv,rfl,⟨ok10,-⟩,b10⟩;have bS:=X4 fF b10;have aU:=kx.bl b10;have aK:=Lib.hid (iL.out.below b10 (Nat.le_refl _));have cT:=Lib.hid (Bk.byAll aU bQ (by decide));obtain⟨ks,aV⟩:=D9 (lookE L x);rw[←aV]at ok10;have lU:ks.length≤1000:=by rw[aV];exact hks x
     obtain⟨A0,eH⟩:=D9 (pl++s1.flatMap fun x=>goB x (lookE L x) (moreE us L x));rw[←eH]at aK;have lV:A0.length≤1200000:=by
      have h1:=Pi (f:=fun x=>goB x (lookE L x) (moreE us L x)) (c:=40000) (s:=s1) (fun y hy=>jY.out y (by rw[iK.out];simp[hy]));have h2:s1.length*40000≤12*40000:=Nat.mul_le_mul_right _ (by omega);rw[eH,List.length_append];omega
     have kC:=Lib.hid aV;have kD:=Lib.hid eH;obtain⟨Ak,ck,rfl,-,-⟩:=ok10.form;obtain⟨kn,bT⟩:=D9 (ks.length);have fC:IntKind.u64.wrap (kn:Int)=E6 (UInt64.ofNat kn):=by rw[Ep];unfold E6;simp
     rw[←bT]at ok10 ⊢;have iM:=Lib.hid bT;have cU:w6.heap.size≤fG.heap.size:=bS.size;have aW:=Lib.hid ok10;have cV:A0.length+x.length≤70368744177664:=by omega
     clear aV eH fF kx b10 iL bT ok10 I9;go_wp2_with (first | (at_builtin;refine Vm _ w6.heap.size _ A0 rfl _ _ rfl rfl aK.out _ rfl x 0 _ cT.out cV cU ?_;intro A2 c2 aP kE kF aX cW bU fH) | fail);rw[List.length_append,bQ]at aX;have fI:=aU.grown bU ((Be aK.out).ne (Gp aU) (by decide));have cX:OwnK aP w9.heap.size (.slice Ak kn ck) ks:=⟨aW.out.1,World.ownsRow.kept aW.out.2 bU (H6 aW.out.2 aK.out (by decide))⟩;have cY:=bS.trans cW;obtain⟨A1,cZ⟩:=D9 (A0++x);have kH:A1.length≤1200032:=by rw[cZ,List.length_append];omega
     have fJ:0<A1.length:=by rw[cZ,List.length_append];omega
     rw[←cZ]at aX;have aO:B6e aP (.slice A2 (A0.length+32) c2) A1:=.inr ⟨aX.up,fJ,by omega⟩;have bD:=Lib.hid aO;have kI:=Lib.hid cZ;have aY:=Lib.hid cX;clear aO aX bU fH kE kF aU cW bS aK cT aW cU cV cZ cX;refine (Cu _ A1 (UInt64.ofNat kn) aP bD.out (by omega)).mono ?_;rintro y lW ⟨kJ,rfl,bX,iN⟩;obtain⟨A3,eI⟩:=D9 (A1++J8 (UInt64.ofNat kn));rw[←eI]at bX;have kK:A3.length≤1200040:=by rw[eI,List.length_append,Q9];omega
     have iO:=Lib.hid eI;have dC:=Lib.hid bX;clear eI bX bD fC;go_wp2_with fail;go_loopw [14,105] (fun av jv w3=>∃(k1 k2:List (List UInt8)),jv=.int .i64 (k1.length:Int)∧ks=k1++k2∧J0 w3 aP.heap.size av (A3++k1.flatten)∧Below aP.heap.size aP w3) (fun _ jv _=>kn-(intOf jv).toNat)
     case atStart=>exact ⟨[],ks,rfl,rfl,by simpa using dC.out,iN⟩
     case round=>
      clear dC iN;obtain⟨k1,k2,rfl,aQ,aI,dD⟩:=hrel;have aL:kn=ks.length:=iM.out;cases k2 with
      | nil=>
       have fK:decide (k1.length<kn)=false:=decide_eq_false (by rw[aL,aQ];simp);rw[List.append_nil]at aQ;subst aQ;have dF:=cY.trans (dD.mono cY.size);have I3:=I6.up dF;have eG:=Bk.row8 (n:=32) (fI.bl dD) bQ;have eJ:=I3.more.look_ false Tryz.underlying85 A9x bQ;have dG:=Lib.hid ((I3.mr x).us);obtain⟨mv,bY⟩:=D9 (gd0 m2 x);rw[if_neg (by simp),←bY]at eJ;rw[←bY]at dG;obtain⟨A7,dI⟩:=D9 (A3++ks.flatten);have dJ:ks.flatten.length≤32000:=by have h1:=Cc (ks:=ks) aY.out.1;omega
       have kL:A7.length≤1300000:=by rw[dI,List.length_append];omega
       have fL:0<A7.length:=by rw[dI,List.length_append,iO.out,List.length_append,Q9];omega
       rw[←dI]at aI;have kM:=Lib.hid dI;have kO:=Lib.hid aI;clear bY dI aI dJ I3 aL;go_wp2_with fail;refine (B7g mv _ wr dG.out (Nat.le_trans (iI.out x) (by omega))).mono ?_;rintro y iP ⟨fM,rfl,dK,eK⟩;have lX:(hbL (moreE us L x)).length≤2000:=by
        unfold hbL;have kQ:∀u∈moreE us L x,u.Ok:=fun u hu=>cM.out u (Iv us L u (List.mem_filter.1 hu).1);rw[List.length_append,Q9,Kn kQ];have:=iI.out x;omega
       have aO:B6e iP u14 A7:=.inr ⟨((kO.out.below eK (Nat.le_refl _)).up),fL,by omega⟩;have bD:=Lib.hid aO;have dL:=Lib.hid dK;clear aO dK eJ eG;go_wp2_with fail;refine (Uo u14 fM A7 _ iP bD.out dL.out (by omega) (by omega)).mono ?_;rintro y lY ⟨kS,rfl,dM,kT⟩;have fN:=C3 (C3 dF eK dF.size) kT (Nat.le_trans dF.size eK.size);have bZ:=dM.less (base':=w6.heap.size) (Nat.le_trans dF.size eK.size);have e1:A4v A7 (hbL (moreE us L x))=pl++((s1++[x]).flatMap fun x=>goB x (lookE L x) (moreE us L x)):=by rw[kM.out,iO.out,kI.out,kD.out,iM.out,kC.out];simp[A4v,goB]
       rw[e1]at bZ;have fO:=Lib.hid bZ;have lZ:s1.length<1000000:=by omega
       clear e1 bZ dM bD dL;go_wp2_with fail;go_roundw;case rel=>exact ⟨s1++[x],s3,by simp,by rw[iK.out];simp,fO.out,fN⟩
       case measure=>exact Lg iJ
      | cons z k3=>
       have fK:decide (k1.length<kn)=true:=decide_eq_true (by rw[aL,aQ];simp);have fP:k1.length<kn:=by rw[aL,aQ];simp
       have fQ:=aY.out.1 z (by rw[aQ];simp);obtain⟨gk,ok,rfl,mA,iQ⟩:=(((aY.out.below dD (Nat.le_refl _)).hs).less (Nat.zero_le _)).at_ (m:=k1.length) (k:=z) (by rw[aQ];simp);have iR:=(Bk.new wr 40 (c8 (z8 32))).can8 (n:=32) (by simp);obtain⟨fR,aZ⟩:=D9 (C2 (wr.alloc (Obj.cells (c8 (z8 32)).toArray 40)) ⟨wr.heap.size,0,none⟩ (c8 z));have kz:Bk fR wr.heap.size 40 (c8 z):=by rw[aZ];exact Bk.fresh wr _ (by simp[fQ])
       have fS:Below wr.heap.size wr fR:=by rw[aZ];exact C0 (U7 _ _) (Nat.le_refl _) _
       have bF:=X4 dD fS;obtain⟨A6,eL⟩:=D9 (A3++k1.flatten);rw[←eL]at aI;have fT:=Lib.hid (aI.below fS (Nat.le_refl _));have fU:=Lib.hid (Bk.byAll kz fQ (by decide));have fV:aP.heap.size≤fR.heap.size:=bF.size;have dJ:k1.flatten.length≤32000:=by have h1:=Cc (ks:=k1) (fun y hy=>aY.out.1 y (by rw[aQ];simp[hy]));omega
       have fW:A6.length+z.length≤70368744177664:=by rw[eL,List.length_append];omega
       have mB:k1.length<1000000:=by omega
       have kU:=Lib.hid eL;have kV:=Lib.hid aQ;clear aQ aI dD fS kz aL dJ eL;go_wp2_with (first | (at_builtin;rw[←aZ];refine Vm _ aP.heap.size _ A6 rfl _ _ rfl rfl fT.out _ rfl z 0 _ fU.out fW fV ?_;intro A5 c5 mD mE mF cA fX fY fZ) | fail);rw[List.length_append,fQ]at cA;have gC:=Lib.hid cA;have cB:=bF.trans fX;clear cA fY fZ aZ;go_roundw;case rel=>exact ⟨k1++[z],k3,by simp,by rw[kV.out];simp,by rw[List.flatten_append,List.flatten_singleton,←List.append_assoc,←kU.out];exact gC.out,cB⟩
       case measure=>exact Lg fP
  | cons u aH=>
   have eY:decide (aA.length<n)=true:=decide_eq_true (by rw[cN,aD];simp);have iJ:aA.length<n:=by rw[cN,aD];simp
   obtain⟨gu,rfl,mG,kW,cC⟩:=(hU.below I.below).row_ (i:=aA.length) (u:=u) (by rw[aD];simp);have eM:=cC.len;have aR:=cC.id;obtain⟨w4,cK⟩:=D9 (C2 (wr.alloc (Obj.cells (N9 (Gk 129)).toArray 69)) ⟨wr.heap.size,0,none⟩ (N9 u));have bR:=(Bk.new wr 69 (N9 (Gk 129))).canvc (n:=129) (Ci _).len;have ku:Bk w4 wr.heap.size 69 (N9 u):=by rw[cK];exact (Bk.new wr 69 (N9 (Gk 129))).putvc (n:=129) (Ci _).len eM
   have b4:Below wr.heap.size wr w4:=by rw[cK];exact C0 (U7 _ _) (Nat.le_refl _) _
   have I4:=I.up b4;have kZ:Hid (∀b,(gd0 m2 u.id).ownBlock=some b→b<wr.heap.size):=Lib.hid (fun b h=>((I.mr u.id).2.lt b h).2);have mH:=I.z;have cD:=UV.loadid ku cC;have eN:=I4.now.look_ true Tryz.underlying32 A9c aR;rw[if_pos rfl,show w.heap.size+2=w.heap.size+1+1 from rfl]at eN;obtain⟨kv,gF⟩:=D9 (gd0 m1 u.id);obtain⟨th,gG⟩:=D9 ((m1 u.id).isSome);rw[←gF,←gG]at eN;have iS:=Lib.hid gF;have gH:=Lib.hid gG;have HS:=Lib.hid aD;have bN:=Lib.hid aT;have HM:=Lib.hid aJ;rw[cK]at cD;clear aD aT aJ cN I b4 gF gG;go_wp2_with fail;rw[←cK];rw[←cK]at cD;clear cK bR kW;rename_i hKK K0 hK0
   have dO:=Lib.hid hKK;clear hKK;rw[eN];go_wp2_with fail;refine dO.out _ _ ?_;clear dO eN;refine wp_seq_k fun K3 hK3=>?_;refine Wp [10,35,36,37,38,39,40] (fun f W=>∃y,f 10=y∧KS W y (lookE (applyE aA L) u.id)∧Below w4.heap.size w4 W) ?_ ?_
   ·clear hK3;cases th with
    | true=>
     have hks:KS w4 kv (lookE (applyE aA L) u.id):=by
      have h1:=gH.out;have h2:=iS.out;unfold gd0 at h2;cases hm:m1 u.id with
      | none=>rw[hm]at h1;cases h1
      | some x=>
       rw[hm,Option.getD_some]at h2;obtain⟨q1,q2,_⟩:=I4.nw u.id x hm;rw[h2];exact q1.ks0 q2
     go_wp2_with fail;exact ⟨by kernel_rfl,hks,Below.refl _ _⟩
    | false=>
     have hm:m1 u.id=none:=by
      have h1:=gH.out;cases hm:m1 u.id with
      | none=>rfl
      | some x=>rw[hm]at h1;cases h1
     have iT:lookE (applyE aA L) u.id=lookE L u.id:=by rw[Cr u.id (fun y hy=>cM.out y (by rw[HS.out];simp[hy])) aS,I4.nw0 _ hm];simp
     have bP:C4 w4 ⟨w.heap.size,0,none⟩ 4=some [Value.int .i64 (e:Int),.pointer ap,.int .i64 0,.map mb]:=by have:=I4.box.rows;rwa [eX.out]at this
     have lC:=Lib.hid iT;clear iT hm;go_wp2_with fail;refine (A6g (hD.up I4.below) u.id aR (Nat.le_trans (hks _) (by omega))).mono ?_;rintro x w5 ⟨y,rfl,⟨o1,o2⟩,b5⟩;go_wp2_with fail;refine ⟨by kernel_rfl,?_⟩;change KS w5 y _;rw[lC.out];by_cases h0:lookE L u.id=[]
     ·exact .inl ⟨o2 h0,h0⟩
     ·exact o1.ks0 (List.length_pos_iff.2 h0)
   ·rintro f w5 ⟨fk,iU,iV,b5⟩;dsimp only[C0e,List.foldl];simp only[Nv];refine hK3 _ _ ?_;clear hK3 iS gH cD;rw[iU];clear iU;have lD:=Lib.hid iV;have I5:=I4.up b5;have iW:=ku.bl b5;have dJ:(lookE (applyE aA L) u.id).length≤1000000:=by rw[Cr u.id (fun y hy=>cM.out y (by rw[HS.out];simp[hy])) aS,List.length_append,List.length_map];have h1:=hks u.id;have h2:(moreE aA L u.id).length≤aA.length:=Nat.le_trans (List.length_filter_le _ _) (Cv aA L);omega
    have lE:=Bk.rowvc (n:=129) iW eM;clear iV I4 ku b5;go_wp2_with fail;refine (Wk fk _ u cC w5 lD.out dJ).mono ?_;rintro x w6 ⟨rk,rfl,cL,b6⟩;have I6:=I5.up b6;have dQ:rk.ownBlock=none∨rk.ownBlock≠u6.ownBlock:=by
     cases hv:rk.ownBlock with
     | none=>exact .inl rfl
     | some b1=>
      refine .inr fun e2=>?_;have q1:=(cL.2.lt b1 hv).1;have q2:=(I5.ids.2.lt b1 e2.symm).2;omega
    have cL:=cL.less I5.z;have gI:=iW.bl b6;obtain⟨en,gJ⟩:=D9 (Bp (lookE (applyE aA L) u.id) u);have HE:=Lib.hid gJ;rw[←gJ];clear lE gJ I5;by_cases h0:en=0
    ·have lF:(en==0)=true:=by rw[h0];rfl
     have cE:=Dn.1 (HE.out.symm.trans h0);have iX:=Rh cE;rw[iX]at cL;have gK:=UV.loadid gI cC;have eO:=I6.more.look_ false Tryz.underlying85 A9x aR;rw[if_neg (by simp)]at eO;obtain⟨Am,cm,bY,-,-⟩:=F8 (I6.mr u.id).2;obtain⟨q,hq⟩:=D9 ((moreE aA L u.id).length);rw[bY,←hq]at eO;have dS:=Lib.hid bY;have HQ:=Lib.hid hq;have dT:=Lib.hid cL;have iY:=Lib.hid cE;have iZ:=Lib.hid eO;obtain⟨Ai,ci,rfl,-,-⟩:=I6.ids.form;have cO:S.length≤12:=by
      have h1:S.length≤(Ee aA L).length:=by
       have bM:S ⊆ (Ee aA L).map (·.id):=fun x hx=>by
        have h2:=(HM.out x).1 hx;cases hq:moreE aA L x with
        | nil=>exact absurd hq h2
        | cons y l=>
         have hy:y∈moreE aA L x:=by rw[hq];simp
         exact List.mem_map.2 ⟨y,(List.mem_filter.1 hy).1,Mu y hy⟩
       have:=Hf bN.out bM;simpa using this
      have:=Cv aA L;omega
     obtain⟨s,hs⟩:=D9 (S.length);have jA:=Lib.hid hs;rw[←hs]at dQ cO ⊢;have eP:=Lib.hid gI;have bG:=I6;rw[←hs]at bG;clear h0 iX cL cE bY hq HE eO hs gI;go_wp2_with fail;rename_i hKK K0 hK0
     have dO:=Lib.hid hKK;clear hKK;rw[iZ.out];clear iZ;go_wp2_with fail;refine dO.out _ _ ?_;clear dO;refine Wp [6,55,56,57,58,59] (fun f W=>∃S',StI w W dc L aA (f 6) S' m1 m2 k∧S'.Nodup∧(∀x,x∈S'↔moreE (aA++[u]) L x≠[])∧Bk W wr.heap.size 69 (N9 u)∧OwnK W (w.heap.size+3) rk (lookE (applyE aA L) u.id++[u.key])∧(rk.ownBlock=none∨rk.ownBlock≠(f 6).ownBlock)) ?_ ?_
     ·by_cases hq0:q=0
      ·have lG:((q:Int)==0)=true:=by rw[hq0];rfl
       have jB:=List.eq_nil_of_length_eq_zero (by rw[←HQ.out];exact hq0);have bL:∀x,x∈S++[u.id]↔moreE (aA++[u]) L x≠[]:=fun x=>by
        rw[List.mem_append,HM.out x,Im];by_cases e:u.id=x
        ·subst e;simp[iY.out]
        ·have e2:¬ x=u.id:=fun h=>e h.symm;simp[e,e2]
       have aT:(S++[u.id]).Nodup:=by rw[List.nodup_append];refine ⟨bN.out,by simp,fun a ha b hb e=>?_⟩;rw[e,List.mem_singleton.1 hb]at ha;exact (HM.out u.id).1 ha jB
       have gL:=Lib.hid bL;have gM:=Lib.hid aT;have bA:∀x∈c8 u.id,x.oneCell'=true:=fun x hx=>by obtain⟨y,_,rfl⟩:=List.mem_map.1 hx;rfl
       have iG:=bG.z;have gO:S.length+1≤68719476736:=by rw[←jA.out];omega
       clear bL hq0 jB aT;go_wp2_with (first | (at_builtin;refine T7 49 40 (A8 (z8 32)) 32 32 Tryz.underlying49 Yo (by simp[A8,Value.cells]) (by decide) (by decide) rfl _ _ rfl rfl bG.ids.2 (c8 u.id) (by simp[aR]) bA _ rfl rfl rfl gO iG ?_;intro A3 c3 w7 lH lI lJ lK dU aF) | fail);have dU:w6.grownBy w7 (Value.slice Ai s ci).ownBlock:=dU;have aF:(Value.slice A3 (S.length+1) c3).ownBlock=(Value.slice Ai s ci).ownBlock∨(Value.slice A3 (S.length+1) c3).ownBlock=some (w6.heap.size+1):=aF;have lM:OwnK w7 (w.heap.size+3) (.slice A3 (S.length+1) c3) (S++[u.id]):=by
        refine ⟨fun x hx=>?_,?_⟩
        ·rcases List.mem_append.1 hx with hx | hx
         ·exact bG.ids.1 x hx
         ·rw[List.mem_singleton.1 hx];exact aR
        ·have lN:c8 (S++[u.id]).flatten=c8 S.flatten++c8 u.id:=by simp[c8]
         rw[lN,List.length_append];exact lJ
       refine ⟨by kernel_rfl,S++[u.id],bG.grow lM lK dU aF,gM.out,gL.out,eP.out.grown dU ((Be bG.ids.2).ne (Gp eP.out) (by decide)),⟨dT.out.1,World.ownsRow.kept dT.out.2 dU dQ⟩,?_⟩;change rk.ownBlock=none∨rk.ownBlock≠(Value.slice A3 (S.length+1) c3).ownBlock;rcases aF with h | h
       ·rw[h];exact dQ
       ·rw[h];cases hv:rk.ownBlock with
        | none=>exact .inl rfl
        | some b1=>
         refine .inr fun e2=>?_;injection e2 with e2;have:=(dT.out.2.lt b1 hv).2;omega
      ·have lG:((q:Int)==0)=false:=by rw[beq_eq_false_iff_ne];omega
       have bL:∀x,x∈S↔moreE (aA++[u]) L x≠[]:=fun x=>by
        rw[HM.out x,Im];by_cases e:u.id=x
        ·subst e;have h1:moreE aA L u.id≠[]:=fun h=>hq0 (by rw[HQ.out,h];rfl);simp[h1]
        ·simp[e]
       have gL:=Lib.hid bL;clear bL hq0;go_wp2_with fail;exact ⟨by kernel_rfl,S,bG,bN.out,gL.out,eP.out,dT.out,dQ⟩
     ·rintro f w7 ⟨S',I7,dW,dX,jC,jD,cF⟩;dsimp only[C0e,List.foldl];simp only[Nv];obtain⟨mI,h6⟩:=D9 (f 6);rw[←h6]at I7 cF ⊢;clear h6 I6 bG eP dT jA dQ gK;have gQ:=Lib.hid dW;have gR:=Lib.hid dX;clear dW dX;go_wp2_with fail;have S1:=Nq w7;have I8:=I7.up S1;have eQ:=jC.drew;have jE:=jD.below S1 (Nat.le_refl _);clear S1 I7 jC jD;refine Ij (fun W=>Bk W wr.heap.size 69 (N9 u)) ?_;refine Cn (A:=?mJ) [0,1,2,3,4,5,6,7,8,9,11] eQ (fun W hW=>?eS) ?mK;case eS=>have f1:=UV.loadid hW cC;have f2:=Bk.rowvc (n:=129) hW eM;exact Fa
      refine Cf [zv 10 70 (.slice Am q cm),zl 12 72 69 (N9 u)] (by kernel_rfl) (fun W hW=>eQ.bl hW) ?mo ?st ?re;case mo=>exact Mp ⟨Jp _ _ _,Mp ⟨zl_mono _ _ _ _,fun _ h=>by cases h⟩⟩
      case st=>
       refine Mp ⟨?lO,Mp ⟨?lP,fun _ h=>by cases h⟩⟩;case lO=>
        intro o ho us W hW hp Q' hQ';obtain rfl:=Option.some.inj ho;clear hp ho;have eJ:=(I8.up hW).more.look_ false Tryz.underlying85 A9x aR;rw[if_neg (by simp),dS.out,←HQ.out]at eJ;rw[D8]at hQ' ⊢;dsimp only[C6,O6,List.foldl,zv,zl]at hQ' ⊢;simp only[Nv];go_wp2_with fail;exact FE' (hQ' _ _ (Below.refl _ _) rfl nofun)
       case lP=>intro o ho us W hW hp Q' hQ';obtain rfl:=Option.some.inj ho;clear hp ho;rw[D8]at hQ' ⊢;dsimp only[C6,O6,List.foldl,zv,zl]at hQ' ⊢;simp only[Nv];go_wp2_with fail;exact FE' (hQ' _ _ (U7 _ _) ⟨_,rfl,Bk.new W _ (N9 u)⟩ nofun)
      intro vs w8 b8 hg gT aO;have jF:vs 10=.slice Am q cm:=hg _ (Yi 0 rfl);obtain⟨p,eT,K4⟩:=hg _ (Yi 1 rfl);have eT:vs 12=.slice (some ⟨p,0,none⟩) 1 1:=eT;have K4:Bk w8 p 69 (N9 u):=K4;rw[D8];dsimp only[O6,List.foldl,zv,zl];simp only[Nv];rw[jF,eT];have I9:=I8.up b8;have jG:=eQ.bl b8;have eU:=jE.below b8 (Nat.le_refl _);clear hg gT aO jF eT b8 I8 eQ jE;have aG:w8.ownsRow (w.heap.size+3) 69 129 (.slice Am q cm) q ((moreE aA L u.id).flatMap N9):=by
       have:=(I9.mr u.id).2;rw[dS.out,←HQ.out]at this;exact this
      have lQ:=I9.z;have lR:q≤12:=by have h1:(moreE aA L u.id).length≤(Ee aA L).length:=List.length_filter_le _ _;have h2:=Cv aA L;rw[HQ.out];omega
      have jH:(Value.slice Am q cm).ownBlock≠some wr.heap.size:=fun e2=>by
       have:=kZ.out wr.heap.size (by rw[dS.out,←HQ.out];exact e2);omega
      have jI:(Rk (Gk 129)).cells.size=129:=by simp[Rk,N9,Gk,Value.cells]
      have bA:=Gy u;have jJ:(N9 u).length=1*129:=by rw[Bu,eM]
      have bP:Rd w8 0 w8.heap.size (some ⟨p,0,none⟩) (N9 u):=.inr ⟨p,0,rfl,Nat.zero_le _,K4.lt,fun j u hj=>by rw[Nat.zero_add];exact K4.at_ hj⟩;have eS:q+1≤68719476736:=by omega
      have jK:=Lib.hid bP;clear bP K4 lR;refine Q6 13 fun Q' hQ'=>?_;dsimp only[C6];have bH:=Lib.hid hQ';clear hQ';go_wp2_with (first | (at_builtin;refine B7p 36 (Rk (Gk 129)) 136 Tryz.underlying36 Mk jI (by decide) (by decide) rfl _ _ rfl rfl aG (some ⟨p,0,none⟩) 1 1 rfl (N9 u) jJ 0 w8.heap.size jK.out bA eS lQ ?_;intro A4 c4 w9 mL mM gU jL bI bB) | fail);have bI:w8.grownBy w9 (Value.slice Am q cm).ownBlock:=bI;have bB:(Value.slice A4 (q+1) c4).ownBlock=(Value.slice Am q cm).ownBlock∨(Value.slice A4 (q+1) c4).ownBlock=some w8.heap.size:=bB;have cG:=jG.grown bI (fun e2=>jH e2.symm);have cH:∀b,b<w.heap.size+3→some b≠(Value.slice Am q cm).ownBlock:=fun b hb e2=>by have:=(aG.lt b e2.symm).1;omega
      have gV:=I9.now.kept bI (cH _ (by omega));have dY:=I9.more.kept bI (cH _ (by omega));have dZ:OwnK w9 (w.heap.size+3) rk (lookE (applyE aA L) u.id++[u.key]):=⟨eU.1,World.ownsRow.kept eU.2 bI (H6 eU.2 aG (by decide))⟩;have jM:k<maxLen:=by have:=I9.hn;unfold maxLen;omega
      obtain⟨D1,jN,bJ⟩:=gV.put aR rk;refine bH.out _ _ cG ?_;clear bH jK bA jJ eS jI jG;refine Q6 14 fun Q' hQ'=>?_;dsimp only[C6];have bH:=Lib.hid hQ';clear hQ';go_wp2_with (first | (at_mapUpdate;refine wpList_mapUpdate_own _ rfl _ _ _ 32 rfl 40 49 Cd Tryz.underlying32 RV (w.heap.size+2) k D1 rfl jN jM _ _ (Wi u.id) rfl rfl (Fx aR) (.held rk) [] rfl ?_;intro fG aM aB) | fail);have eA:=bJ fG aM;have eB:=dY.kept aB (fun e2=>by injection e2 with e2;omega);have cI:=cG.grown aB (fun e2=>by injection e2 with e2;omega);obtain⟨D2,jO,bK⟩:=eB.put aR (.slice A4 (q+1) c4);refine bH.out _ _ cI ?_;clear bH jN bJ aM dY cG;refine Q6 15 fun Q' hQ'=>?_;dsimp only[C6];have bH:=Lib.hid hQ';clear hQ';go_wp2_with (first | (at_mapUpdate;refine wpList_mapUpdate_own _ rfl _ _ _ 85 rfl 40 36 Cd Tryz.underlying85 RV (w.heap.size+1) k D2 rfl jO jM _ _ (Wi u.id) rfl rfl (Fx aR) (.held (.slice A4 (q+1) c4)) [] rfl ?_;intro aP aN aC) | fail);have eC:=bK aP aN;have eD:=cI.grown aC (fun e2=>by injection e2 with e2;omega);refine bH.out _ _ eD ?_;clear bH jO bK aN eB cI;refine Gn ?_;have eE:OkE (applyE aA L):=OkE.apply (fun y hy=>cM.out y (by rw[HS.out];simp[hy])) aS
      have jP:=I9.acc (u:=u) (kv:=rk) (a:=.slice A4 (q+1) c4) iY.out cC eE dZ cF (by rw[HQ.out]at gU ⊢;exact gU) jL (by rw[dS.out,←HQ.out];exact bI) (by rw[dS.out,←HQ.out];exact bB) aB eA aC eC;have gW:=Lib.hid jP;clear jP eE jL bI bB gU aB aC eC eA dZ cH aG eD I9 eU cF jH;go_wp2_with fail;go_roundw;case rel=>exact ⟨aA++[u],aH,S',_,_,k+1,by simp,by rw[HS.out];simp,gW.out,gQ.out,gR.out⟩
      case measure=>simp only[intOf];omega
    ·have lF:=beq_eq_false_iff_ne.2 h0;have cE:Df (lookE (applyE aA L) u.id) u=false:=by
      cases hb:Df (lookE (applyE aA L) u.id) u with
      | false=>rfl
      | true=>exact absurd (HE.out.trans (Dn.2 hb)) h0
     have I7:=Lib.hid (I6.skip cE);have dX:∀x,x∈S↔moreE (aA++[u]) L x≠[]:=fun x=>by rw[Im,cE];simpa using HM.out x
     have gR:=Lib.hid dX;clear h0 cE dX;go_wp2_with fail;go_roundw;case rel=>exact ⟨aA++[u],aH,S,m1,m2,k,by simp,by rw[HS.out];simp,I7.out,bN.out,gR.out⟩
     case measure=>simp only[intOf];omega
end
section
theorem B3x:∀ {gs:List Gr} {p:Pt} {pr:Option (List UInt8)} {e:Int},Hw p pr gs=.error e→e≠0
 | [],p,pr,e,h=>by cases h
 | q::gs,p,pr,e,h=>by
  rw[A2o]at h;split at h
  ·injection h with h;omega
  ·split at h
   ·rename_i e' he
    injection h with h;subst h;exact C0q he
   ·exact B3x h
theorem B9r {a b b' l:List UInt8} (h:A4j a b l=0) (hb:b≠b'):A4j a b' l=130:=by
 unfold A4j at h ⊢;cases hp:Dt l with
 | error e=>
  rw[hp]at h;exact absurd h (A7j hp)
 | ok r=>
  rw[hp]at h;dsimp only at h ⊢;by_cases h1:r.1.root≠a
  ·rw[if_pos h1]
  ·rw[if_neg h1]at h ⊢;cases hc:Hw r.1 none r.2 with
   | error e=>
    rw[hc]at h;exact absurd h (B3x hc)
   | ok p=>
    rw[hc]at h;dsimp only at h ⊢;by_cases h2:p.root≠b
    ·rw[if_pos h2]at h;cases h
    ·rw[if_pos (fun e=>hb ((Classical.not_not.1 h2).symm.trans e))]
theorem D1u:((Tr.lf eq9 (W8 [h1 2])).root==h1 1)=false:=by decide +kernel
theorem D4c:(Tr.e.root==h1 1)=false:=by decide +kernel
theorem D8r (a:List UInt8) (v:Int) (b:List UInt8):(mkU a v b).id=Cy a:=rfl
theorem C9j {t:Tr} (ht:IsTree t (applyE [u1] [])):t.root≠h1 1:=by
 have ho:=ht.ok;have hp:=ht.prs;intro e;rw[show applyE [u1] []=Cq [] u1 by unfold applyE;rw[List.foldl_cons,List.foldl_nil]]at hp;unfold Cq at hp;split at hp
 ·rw[show Cj u1.id u1.key []=[(u1.id,u1.key::[])] by unfold Cj;simp[lookE]]at hp;have h:=C3z ho (hp.trans (by unfold pairsE;rw[List.map_cons,List.map_nil]));rw[h,←B8c,D8r,F0s,B8c,E0f]at e;have:=D1u;rw[e]at this;simp at this
 ·have h:t=.e:=by
   cases t with
   | e=>rfl
   | lf a b=>cases hp
   | nd l r=>
    have h2:(Tr.nd l r).pairs.length=0:=by rw[hp];rfl
    rw[←Tr.len_pairs]at h2;have h3:2≤l.len+r.len:=ho.2.1;have e:(Tr.nd l r).len=l.len+r.len:=rfl;omega
  have:=D4c;rw[←h,e]at this;simp at this
theorem Zk {us:List UV} {L:List En} {S:List (List UInt8)} {t:Tr} (hu:∀u∈us,u.Ok) (okE:OkE L) (ht:IsTree t L) (hm:∀x,x∈S↔moreE us L x≠[]) (hnd:S.Nodup) (hL:L.length≤1000) (hks:∀x,(lookE L x).length≤1000) (hul:us.length≤12) :
 (Oy (t.cut S 0).bytes (S.map fun x=>(x,lookE L x,moreE us L x))).length≤1099511627776:=by
 have aB:(t.cut S 0).bytes.length≤579001:=by
  have h1:=Xk ht.ok (by omega) S 0;have h2:t.len≤1000:=by rw[Tr.len_pairs,ht.prs,X1];exact hL
  have h3:t.len*(65+2*(257-0))≤1000*579:=Nat.mul_le_mul h2 (by omega);omega
 have aC:∀x∈S,∃u∈us,u∈Ee us L∧u.id=x:=fun x hx=>by
  cases hq:moreE us L x with
  | nil=>exact absurd hq ((hm x).1 hx)
  | cons y l=>
   have hy:y∈moreE us L x:=by rw[hq];simp
   have h2:=(List.mem_filter.1 hy).1;exact ⟨y,Iv us L y h2,h2,Mu y hy⟩
 have aD:S.length≤12:=by
  have aA:S ⊆ (Ee us L).map (·.id):=fun x hx=>by
   obtain⟨u,_,h2,h3⟩:=aC x hx;exact List.mem_map.2 ⟨u,h2,h3⟩
  have h1:=Hf hnd aA;have h2:=Cv us L;rw[List.length_map]at h1;omega
 have hg:∀x∈S,(goB x (lookE L x) (moreE us L x)).length≤40000:=fun x hx=>by
  obtain⟨u,h1,_,h3⟩:=aC x hx;have h4:(moreE us L x).length≤(Ee us L).length:=List.length_filter_le _ _;have h5:=Cv us L;exact C2l (by rw[←h3];exact (hu u h1).id) (Ru okE.key x) (hks x) (fun y hy=>hu y (Iv us L y (List.mem_filter.1 hy).1)) (by omega)
 have h1:=Pi hg;have h2:S.length*40000≤12*40000:=Nat.mul_le_mul_right _ aD;unfold Oy;rw[List.flatMap_map];simp only[List.length_append,Q9];omega
attribute [local go_sem ↓ high] El Qw
theorem B8u (w:World):Calls Tryz.prog 6 #[] w fun x w'=>x=.returned (.bool true)∧Below w.heap.size w w':=by
 have bH:=C8v;go_enter Tryz.func6,Tryz.ntmps6;go_wp2_with fail;refine (B2k (h1 1) 1 (h1 2) (Hi 1) (Hi 2) w).mono ?_;rintro x w2 ⟨rfl,b2⟩;rw[B8c];obtain⟨u,hu⟩:=D9 (u1);have aK:u.Ok:=by rw[hu];exact E5o
 have aU:Hid (∀ {t:Tr},IsTree t (applyE [u] [])→t.root≠h1 1):=Lib.hid (by rw[hu];exact C9j);rw[←hu];clear hu;have aM:=aK.len;have bP:=aK.id;have aB:=(Bk.new w2 69 (N9 (Gk 129))).canvc (n:=129) (Ci _).len;obtain⟨w3,aH⟩:=D9 (C2 (w2.alloc (Obj.cells (N9 (Gk 129)).toArray 69)) ⟨w2.heap.size,0,none⟩ (N9 u));have ku:Bk w3 w2.heap.size 69 (N9 u):=by rw[aH];exact (Bk.new w2 69 (N9 (Gk 129))).putvc (n:=129) (Ci _).len aM
 have b3:Below w2.heap.size w2 w3:=by rw[aH];exact C0 (U7 _ _) (Nat.le_refl _) _
 have B3:=X4 b2 b3;have aN:w3.heap.size=w2.heap.size+1:=by rw[aH];simp
 have r3:=ku.rowvc (n:=129) aM;rw[aH]at r3;go_wp2_with fail;rw[←aH];clear aH aB r3 b3;have aN:=Lib.hid aN;generalize w2.heap.size=gu at *;have B4:=B3.alloc B3.size (Obj.cells (N9 u).toArray 69);have aV:=ku.alloc (Obj.cells (N9 u).toArray 69);refine (Uf _ 0 [] 0 [u] _ (w3.alloc (Obj.cells (N9 u).toArray 69)) (DirIs.nil _) (C9w w3 aN.out aK) (by omega) (by simp) (by simp) (fun x=>by simp[lookE])).mono ?_;rintro x w5 ⟨dv,rfl,hD,b5⟩;obtain⟨ap,mb,rfl⟩:=hD.form;rw[show ((0+1:Nat):Int)=1 from rfl]at hD ⊢;have B5:=X4 B4 b5;have aW:=aV.bl b5;clear b5 aV B4 ku B3 b2;have k0:=Bk.new w5 34 [.int .i64 0,.pointer none,.int .i64 0,.map none];have aB:=Nn 4 k0 (by simp);obtain⟨w6,aI⟩:=D9 (C2 (w5.alloc (Obj.cells #[.int .i64 0,.pointer none,.int .i64 0,.map none] 34)) ⟨w5.heap.size,0,none⟩ [.int .i64 1,.pointer ap,.int .i64 0,.map mb]);have kd:Bk w6 w5.heap.size 34 [.int .i64 1,.pointer ap,.int .i64 0,.map mb]:=by rw[aI];exact k0.puts (by simp)
 have b6:Below w5.heap.size w5 w6:=by rw[aI];exact C0 (U7 _ _) (Nat.le_refl _) _
 have aX:=hD.up b6;have aY:=aW.bl b6;have B6:=X4 B5 b6;have bI:Hid (w6.heap.size=w5.heap.size+1):=Lib.hid (by rw[aI];simp);have r5:=aY.rowvc (n:=129) aM;rw[aI]at r5;clear k0 hD aW B5 b6;go_wp2_with fail;rw[←aI];clear aI aB r5;have B7:=B6.alloc B6.size (Obj.cells (N9 u).toArray 69);have b7:Below w6.heap.size w6 (w6.alloc (Obj.cells (N9 u).toArray 69)):=U7 _ _;have aZ:=aX.up b7;have bA:=kd.bl b7;have aO:IsTree Tr.e []:=⟨Okt.nil,rfl⟩;have aC:∀y∈[u],y.Ok:=fun y hy=>by rw[List.mem_singleton.1 hy];exact aK
 have aD:∀x,(lookE [] x).length≤1000:=fun x=>by simp[lookE]
 have bB:=Lib.hid (C9w w6 bI.out aK);clear aX kd aY B6 b7 bH;refine (A6w _ 0 0 [] [u] _ _ Tr.e (DirIs.nil _) aO bB.out (by simp) (by simp) aD).mono ?_;rintro x w8 ⟨sv,S,rfl,aP,aL,aQ,aE,b8⟩;have aR:=aZ.up b8;have bC:=bA.bl b8;have B8:=X4 B7 b8;obtain⟨t,ht⟩:=aR.tree;obtain⟨bJ,aJ⟩:=A4a aC OkE.nil aO ht aE aL aQ (by simp) (fun x=>by simp[lookE]) (by simp);have aF:=Zk aC OkE.nil aO aE aQ (by simp) aD (by simp);have bD:=aU.out ht;have aJ:A4j (z8 32) t.root _=0:=aJ;have aS:=B9r aJ bD;obtain⟨bl,bE⟩:=D9 (Oy ((Tr.e).cut S 0).bytes (S.map fun x=>(x,lookE [] x,moreE [u] [] x)));rw[←bE]at aP aJ aS aF;have bK:=t.root_length;have bL:=Lib.hid aJ;have bM:=Lib.hid aS;have HT:=Lib.hid ht;clear bJ bE aJ aS aL aQ aE bD aU ht aD aC bB bA aZ B7;have r8:C4 w8 ⟨w5.heap.size,0,none⟩ 4=some [.int .i64 1,.pointer ap,.int .i64 0,.map mb]:=bC.rows;go_wp2_with fail;refine (A3b aR HT.out).mono ?_;rintro x w9 ⟨rfl,b9⟩;have B9:=X4 B8 b9;have aG:=Lib.hid ((aP.up).up b9);clear aP B8 b9 r8 aR bC;go_wp2_with fail;refine (Uh (z8 32) t.root (by simp) bK sv bl w9 aG.out aF).mono ?_;rintro x bN ⟨rfl,aT⟩;have bF:=X4 B9 aT;have aA:=Lib.hid (aG.out.up aT);rw[bL.out];clear aG B9 aT;go_wp2_with fail;refine (Uh (z8 32) (h1 1) (by simp) (Hi 1) sv bl bN aA.out aF).mono ?_;rintro x bQ ⟨rfl,bG⟩;have bO:=X4 bF bG;rw[bM.out];clear aA bF bG
 go_wp2_with fail;go_ret;exact ⟨rfl,bO⟩
end
end Go.Proofs.YtmllnpokbbabhaaGreat
