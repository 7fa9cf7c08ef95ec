/- A part of the proof of AuditBatch. -/
import Derived.Test.YtdfpoofbgjilgaaGreatUbm
import Derived.Test.YtdfpoofbgjilgaaGreatUbk
set_option linter.unusedVariables false
set_option linter.unusedSimpArgs false
set_option maxRecDepth 100000
set_option maxHeartbeats 40000000
namespace Go.Proofs.YtdfpoofbgjilgaaGreat
open Go Go.RowKit Sh
section
theorem MapV.lookz {t e:TypeId} {z:Value} (c:Bool) (ht:Tryz.prog.underlying t=some (.map 35 e)) (hz:∀w,(zeroValue e).run Tryz.prog w=.ok z w) {w:World} {b n:Nat} {m:List UInt8→Option Value} (h:MapV w b n m) {k:List UInt8} (hk:k.length=32) :
 (Instr.lookup t (.map (some b)) (A8 k) c).run Tryz.prog w=.ok (if c then .tuple #[(m k).getD z,.bool (m k).isSome] else (m k).getD z) w:=by
 obtain⟨D,⟨es,aA,hb,F,_,rfl⟩,hl⟩:=h;obtain⟨_,h2⟩:=hl k hk;rcases Maps.fit_look c Cm ht (hz w) hb F (Gd hk) with ⟨hrun,_,hat⟩ | ⟨e0,y,_,_,hrun,hRv,hat,_⟩
 ·cases hm:m k with
  | none=>exact hrun
  | some v=>
   have h3:=h2 .nil;rw[hat,hm]at h3;cases h3
 ·have hy:y.1=.held e0.val:=by have:some (DataW.held e0.val,([]:List MemPlace))=some y:=hRv;injection this with this;rw[←this]
  cases hm:m k with
  | none=>
   have h3:=h2 .nil;rw[hat,hm,hy]at h3;cases h3
  | some v=>
   have h3:=h2 .nil;rw[hat,hm,hy]at h3;injection h3 with h3;rw[←h3];exact hrun
theorem MapV.look_ {t e:TypeId} (c:Bool) (ht:Tryz.prog.underlying t=some (.map 35 e)) (hz:∀w,(zeroValue e).run Tryz.prog w=.ok (.slice none 0 0) w) {w:World} {b n:Nat} {m:List UInt8→Option Value} (h:MapV w b n m) {k:List UInt8} (hk:k.length=32) :
 (Instr.lookup t (.map (some b)) (A8 k) c).run Tryz.prog w=.ok (if c then .tuple #[gd0 m k,.bool (m k).isSome] else gd0 m k) w:=h.lookz c ht hz hk
theorem A6m (w:World):(zeroValue 44).run Tryz.prog w=.ok (.slice none 0 0) w:=by kernel_rfl
theorem US.oks {w:World} {B:Nat} {v:Value} {us:List UV} (h:US w B v us):∀u∈us,u.Ok:=by
 rcases h with ⟨rfl,_⟩ | ⟨g,tl,c',h1,h2,h3⟩
 ·intro u hu;cases hu
 ·exact h2.1
theorem US.row_ {w:World} {B n c:Nat} {A:Option Addr} {us:List UV} (h:US w B (.slice A n c) us) {i:Nat} {u:UV} (hu:us[i]?=some u):∃g,A=some ⟨g,0,none⟩∧g<B∧C6 w ⟨g,i*129,none⟩ 129=some (P9 u)∧u.Ok:=by
 rcases h with ⟨h1,_⟩ | ⟨g,tl,c',h1,h2,h3⟩
 ·rw[h1]at hu;simp at hu
 ·injection h1 with h1;exact ⟨g,h1,h3,h2.row hu,h2.1 u (List.mem_of_getElem? hu)⟩
theorem B8e {x:List UInt8} {ks:List (List UInt8)} {us:List UV} (hx:x.length=32) (hk:∀k∈ks,k.length=32) (hn:ks.length≤1000) (hu:∀u∈us,u.Ok) (hm:us.length≤12):(goB x ks us).length≤40000:=by
 unfold goB hbL;simp only[List.length_append,Q8,hx,Cd hk,Js hu];omega
theorem Nx {α:Type} {f:α→List UInt8} {c:Nat}:∀ {s:List α},(∀x∈s,(f x).length≤c)→(s.flatMap f).length≤s.length*c
 | [],_=>by simp
 | x::s,h=>by
  have h1:=h x (by simp);have h2:=Nx (f:=f) (s:=s) fun y hy=>h y (List.mem_cons_of_mem _ hy);rw[List.flatMap_cons,List.length_append,List.length_cons,Nat.succ_mul];omega
theorem Ue {i n:Nat} (h:i<n):n-(intOf (.int .i64 ((i:Int)+1))).toNat<n-(intOf (.int .i64 (i:Int))).toNat:=by
 simp only[intOf];omega
theorem Mn:∀(us:List UV) (L:List En),(Z0 us L).length≤us.length
 | [],_=>Nat.zero_le _
 | u::us,L=>by
  unfold Z0;split
  ·have:=Mn us (Bm u.id u.key L);simp;omega
  ·have:=Mn us L;simp;omega
attribute [local go_sem ↓ high] Fs
theorem A3i (dv:Value) (e N:Nat) (L:List En) (us:List UV) (v:Value) (w:World) (t:Tr) (hD:Bh w dv e L N) (ht:IsTree t L) (hU:US w w.heap.size v us) (hn:us.length≤100) (ha:(Z0 us L).length≤12) (hL:L.length≤1000) (hks:∀x,(lookE L x).length≤1000) :
 Calls Tryz.prog 13 #[dv,v] w fun x w'=>∃u S,x=.returned u∧J6 w' w.heap.size u (Mk (t.cut S 0).bytes (S.map fun x=>(x,lookE L x,moreE us L x)))∧S.Pairwise blt∧S.Nodup∧(∀x,x∈S↔moreE us L x≠[])∧Below w.heap.size w w':=by
 obtain⟨ap,mb,rfl⟩:=hD.form;obtain⟨A,c,rfl⟩:=hU.form;have aS:=hD.okE;obtain⟨n,eX⟩:∃n,n=us.length:=⟨_,rfl⟩;have HN:=Lib.hid eX;have cO:Hid (∀u∈us,u.Ok):=Lib.hid (hU.oks);rw[←eX]at hU hn ⊢;clear eX;have bL:=@run_makeMap Tryz.prog;obtain⟨dc,eY⟩:∃dc,dc=[Value.int .i64 (e:Int),.pointer ap,.int .i64 0,.map mb]:=⟨_,rfl⟩;obtain⟨W0,cJ⟩:∃x,x=((w.alloc (Obj.cells #[.int .i64 (e:Int),.pointer ap,.int .i64 0,.map mb] 56)).alloc (.map #[] 0)).alloc (.map #[] 0):=⟨_,rfl⟩;have B0:Below w.heap.size w W0:=by rw[cJ];exact (((Below.refl _ _).alloc (Nat.le_refl _) _).alloc (by simp) _).alloc (by simp;omega) _
 have I0:StI w W0 dc L [] (.slice none 0 0) [] (fun _=>none) (fun _=>none) 0:=by
  have kd:Bk (w.alloc (Obj.cells #[.int .i64 (e:Int),.pointer ap,.int .i64 0,.map mb] 56)) w.heap.size 56 dc:=by rw[eY];exact Bk.new w _ _
  have jN:MapV ((w.alloc (Obj.cells #[.int .i64 (e:Int),.pointer ap,.int .i64 0,.map mb] 56)).alloc (.map #[] 0)) (w.heap.size+1) 0 (fun _=>none):=by simpa using MapV.made (w.alloc (Obj.cells #[.int .i64 (e:Int),.pointer ap,.int .i64 0,.map mb] 56))
  have jO:MapV W0 (w.heap.size+2) 0 (fun _=>none):=by rw[cJ];simpa using MapV.made ((w.alloc (Obj.cells #[.int .i64 (e:Int),.pointer ap,.int .i64 0,.map mb] 56)).alloc (.map #[] 0))
  refine ⟨by rw[cJ];exact (kd.alloc _).alloc _,?_,jO,OwnK.nil _ _,fun x v h=>(by cases h),fun x _=>rfl,fun x=>⟨fun u h=>(by cases h),World.ownsRow_nil _ _ _ _⟩,fun x y _=>.inl rfl,B0,Nat.le_refl _⟩;rw[cJ];exact jN.below ((Below.refl _ _).alloc (Nat.le_refl _) _) (Nat.le_refl _)
 have eZ:=Lib.hid eY;clear eY;go_enter Tryz.func13,Tryz.ntmps13;go_wp2_with fail;rw[←cJ];clear cJ B0 bL;go_loopw [6,24] (fun iv jv wr=>∃(aA aH:List UV) (S:List (List UInt8)) (m1 m2:List UInt8→Option Value) (k:Nat),jv=.int .i64 (aA.length:Int)∧us=aA++aH∧StI w wr dc L aA iv S m1 m2 k∧S.Nodup∧(∀x,x∈S↔moreE aA L x≠[])) (fun _ jv _=>n-(intOf jv).toNat)
 case atStart=>exact ⟨[],us,[],_,_,0,rfl,rfl,I0,List.nodup_nil,fun x=>by simp[moreE,Z0]⟩
 case round=>
  clear I0;obtain⟨aA,aH,S,m1,m2,k,rfl,aC,I,aT,aJ⟩:=hrel;have cP:(Z0 aA L).length≤12:=by
   have h1:=ha;rw[aC,Uq,List.length_append]at h1;omega
  have cQ:n=us.length:=HN.out;cases aH with
  | nil=>
   have fB:decide (aA.length<n)=false:=decide_eq_false (by rw[cQ,aC];simp);rw[List.append_nil]at aC;subst aC;obtain⟨As,ct,rfl,-,-⟩:=I.ids.form;have cR:S.length≤12:=by
    have bM:S ⊆ (Z0 us L).map (·.id):=fun x hx=>by
     have h2:=(aJ x).1 hx;cases hq:moreE us L x with
     | nil=>exact absurd hq h2
     | cons y l=>
      have hy:y∈moreE us L x:=by rw[hq];simp
      exact List.mem_map.2 ⟨y,(List.mem_filter.1 hy).1,Pm y hy⟩
    have:=Kc aT bM;have:=ha;simp only[List.length_map]at *;omega
   have hc:=Lib.hid (C3m (w.heap.size+3) _ S wr I.ids cR aT);have HI:=Lib.hid I;have gW:=Lib.hid aJ;have bN:=Lib.hid aT;clear cQ aJ aT hU;go_wp2_with fail;refine hc.out.mono ?_;rintro x w2 ⟨rfl,l,fC,aE,cS,bO⟩;have I1:=HI.out;have lO:=I1.z;have bl:Below (w.heap.size+3) wr w2:=⟨bO.os,bO.tape,bO.output,bO.size,fun b hb=>bO.block b (by omega) (fun e2=>by have:=(I1.ids.2.lt b e2.symm).1;omega)⟩;have I2:=I1.grow fC bl bO (.inl rfl);have cT:l.Nodup:=aE.nodup_iff.2 bN.out;have gX:S.length=l.length:=aE.length_eq.symm;have bC:∀x,x∈l↔moreE us L x≠[]:=fun x=>(aE.mem_iff).trans (gW.out x);have jP:l.length≤12:=by rw[aE.length_eq];exact cR
   have HS:=Lib.hid cS;have jQ:=Lib.hid cT;have jR:=Lib.hid bC;clear hc HI gW bN I1 bl bO cT bC cR aE cS;have bP:C6 w2 ⟨w.heap.size,0,none⟩ 4=some [Value.int .i64 (e:Int),.pointer ap,.int .i64 0,.map mb]:=by have:=I2.box.rows;rwa [eZ.out]at this
   rw[gX]at fC I2 ⊢;obtain⟨m,hm⟩:∃m,m=l.length:=⟨_,rfl⟩;have fD:=Lib.hid hm;rw[←hm]at fC I2 jP ⊢;clear hm gX;have cU:(t.cut l 0).bytes.length≤579001:=by
    have h1:=Vs ht.ok (by omega) l 0;have h2:t.len≤1000:=by rw[Tr.len_pairs,ht.prs,Y2];exact hL
    have h3:t.len*(65+2*(257-0))≤1000*579:=Nat.mul_le_mul h2 (by omega);omega
   go_wp2_with fail;refine (C3t _ _ _ _ w2).mono ?_;rintro x w3 ⟨rfl,b3⟩;have I3:=I2.up b3;have gY:=hD.up I3.below;have aF:At w3 w3.heap.size t (.pointer ap):=E0q gY ht;have jS:t.len≤1000000000000:=by rw[Tr.len_pairs,ht.prs,Y2];omega
   have gZ:Hs w3 0 w3.heap.size (.slice As m ct) l:=(I3.ids.hs).less (Nat.zero_le _);have hY:=Lib.hid aF;have iA:=Lib.hid gZ;clear I2 b3 aF gZ;go_wp2_with fail;refine (C9e t P0 ht.ok jS (.pointer ap) _ l w3 (by rw[←fD.out];omega) hY.out iA.out).mono ?_;rintro x w4 ⟨rfl,b4⟩;have I4:=I3.up b4;clear I3 b4 hY iA gY;go_wp2_with fail;refine (B7h (t.cut l 0) (D6g ht.ok _ _) (by omega) w4).mono ?_;rintro x w5 ⟨bv,rfl,iB,b5⟩;have I5:=I4.up b5;have iC:=Lib.hid iB.up;clear I4 b5 iB;go_wp2_with fail;refine (Rn (.slice none 0 0) bv [] _ w5 (.inl ⟨rfl,rfl⟩) iC.out (by simp) (by omega)).mono ?_;rintro x w6 ⟨cv,rfl,iD,b6⟩;have I6:=I5.up b6;have aO:B5f w6 cv (A3f [] (t.cut l 0).bytes):=.inr ⟨iD.up,by rw[Fr];omega,by rw[Fr];simp;omega⟩;have bD:=Lib.hid aO;have fE:IntKind.u64.wrap (m:Int)=H6 (UInt64.ofNat m):=by rw[Dv];unfold H6;simp
   clear I5 b6 iD aO iC;go_wp2_with fail;refine (Ca cv _ (UInt64.ofNat m) w6 bD.out (by rw[Fr];simp;omega)).mono ?_;rintro x w7 ⟨ov,rfl,bE,b7⟩;have iE:=I6.z;obtain⟨pl,eI⟩:∃pl,pl=A3f [] (t.cut l 0).bytes++J9 (UInt64.ofNat m):=⟨_,rfl⟩;rw[←eI]at bE;have jT:=Lib.hid eI;have jU:pl.length≤600000:=by rw[eI,List.length_append,Fr,Q8];simp;omega
   clear bD fE eI cU;have fF:∀x,(moreE us L x).length≤12:=fun x=>by
    have h1:(moreE us L x).length≤(Z0 us L).length:=List.length_filter_le _ _;have h2:=ha;have h3:=HN.out;omega
   have iF:∀x∈l,(goB x (lookE L x) (moreE us L x)).length≤40000:=fun x hx=>B8e (I6.ids.1 x hx) (Pe aS.key x) (hks x) (fun u hu=>cO.out u (Hi us L u (List.mem_filter.1 hu).1)) (fF x);have jV:=Lib.hid iF;have iG:=Lib.hid fF;clear iF fF;go_wp2_with fail;go_loopw [14,89] (fun av jv wr=>∃(s1 s2:List (List UInt8)),jv=.int .i64 (s1.length:Int)∧l=s1++s2∧J6 wr w6.heap.size av (pl++s1.flatMap fun x=>goB x (lookE L x) (moreE us L x))∧Below w6.heap.size w6 wr) (fun _ jv _=>m-(intOf jv).toNat)
   case atStart=>exact ⟨[],l,rfl,rfl,by simpa using bE,b7⟩
   case round=>
    clear bE b7;obtain⟨s1,s2,rfl,aC,bE,b8⟩:=hrel;have bC:m=l.length:=fD.out;cases s2 with
    | nil=>
     have fB:decide (s1.length<m)=false:=decide_eq_false (by rw[bC,aC];simp);rw[List.append_nil]at aC;subst aC;have jW:=Lib.hid bE;clear bE bC;go_wp2_with fail;go_ret;refine ⟨_,l,rfl,?_,HS.out,jQ.out,jR.out,I6.below.trans (b8.mono (by omega))⟩;have h1:=jW.out.less (base':=w.heap.size) (by omega);have e1:pl++(l.flatMap fun x=>goB x (lookE L x) (moreE us L x))=Mk (t.cut l 0).bytes (l.map fun x=>(x,lookE L x,moreE us L x)):=by rw[jT.out,fD.out];simp[Mk,A3f,List.flatMap_map]
     rw[←e1];exact h1
    | cons x s3=>
     have fB:decide (s1.length<m)=true:=decide_eq_true (by rw[bC,aC];simp);have iH:s1.length<m:=by rw[bC,aC];simp
     have I8:=I6.up b8;have bQ:x.length=32:=I6.ids.1 x (by rw[aC];simp);obtain⟨gi,oi,rfl,lP,fG⟩:=((I8.ids.hs).less (Nat.zero_le _)).at_ (m:=s1.length) (k:=x) (by rw[aC];simp);have bR:=(Bk.new wr 35 (c8 (z8 32))).can8 (n:=32) (by simp);obtain⟨w9,cV⟩:∃y,y=C5 (wr.alloc (Obj.cells (c8 (z8 32)).toArray 35)) ⟨wr.heap.size,0,none⟩ (c8 x):=⟨_,rfl⟩;have kx:Bk w9 wr.heap.size 35 (c8 x):=by rw[cV];exact Bk.fresh wr _ (by simp[bQ])
     have b9:Below wr.heap.size wr w9:=by rw[cV];exact C1 ((Below.refl _ _).alloc (Nat.le_refl _) _) (Nat.le_refl _) _
     have eJ:=C0 b8 b9 b8.size;have I9:=I6.up eJ;have bP:C6 w9 ⟨w.heap.size,0,none⟩ 4=some [Value.int .i64 (e:Int),.pointer ap,.int .i64 0,.map mb]:=by have:=I9.box.rows;rwa [eZ.out]at this
     have eK:=Bk.row8 (n:=32) kx bQ;have iI:=Lib.hid aC;have iJ:=Lib.hid (bE.below b9 (Nat.le_refl _));rw[cV]at bP eK;clear aC bE bC I8 b9;go_wp2_with fail;rw[←cV];clear cV bP eK bR fG;refine (A4w (hD.up I9.below) x bQ (Nat.le_trans (hks _) (by omega))).mono ?_;rintro y fH ⟨kv,rfl,⟨ok10,-⟩,b10⟩;have bS:=C0 eJ b10 eJ.size;have aU:=kx.below b10 kx.lt;have aK:=Lib.hid (iJ.out.below b10 (Nat.le_refl _));have cW:=Lib.hid (Bk.byAll aU bQ (by decide));obtain⟨ks,aV⟩:∃ks,ks=lookE L x:=⟨_,rfl⟩;rw[←aV]at ok10;have lQ:ks.length≤1000:=by rw[aV];exact hks x
     obtain⟨A0,eL⟩:∃A0,A0=pl++s1.flatMap fun x=>goB x (lookE L x) (moreE us L x):=⟨_,rfl⟩;rw[←eL]at aK;have lR:A0.length≤1200000:=by
      have h1:=Nx (f:=fun x=>goB x (lookE L x) (moreE us L x)) (c:=40000) (s:=s1) (fun y hy=>jV.out y (by rw[iI.out];simp[hy]));have h2:s1.length*40000≤12*40000:=Nat.mul_le_mul_right _ (by omega);rw[eL,List.length_append];omega
     have jX:=Lib.hid aV;have jY:=Lib.hid eL;obtain⟨Ak,ck,rfl,-,-⟩:=ok10.form;obtain⟨kn,bT⟩:∃kn,kn=ks.length:=⟨_,rfl⟩;have fE:IntKind.u64.wrap (kn:Int)=H6 (UInt64.ofNat kn):=by rw[Dv];unfold H6;simp
     rw[←bT]at ok10 ⊢;have iK:=Lib.hid bT;have cX:w6.heap.size≤fH.heap.size:=bS.size;have aW:=Lib.hid ok10;have cY:A0.length+x.length≤70368744177664:=by omega
     clear aV eL eJ kx b10 iJ bT ok10 I9;go_wp2_with (first | (at_builtin;refine Tb _ w6.heap.size _ A0 rfl _ _ rfl rfl aK.out _ rfl x 0 _ cW.out cY cX ?_;intro A2 c2 aP jZ kC aX cZ bU fI) | fail);rw[List.length_append,bQ]at aX;have dC:=aU.grown bU ((Ae aK.out).ne (Fw aU) (by decide));have dD:OwnK aP w9.heap.size (.slice Ak kn ck) ks:=⟨aW.out.1,World.ownsRow.kept aW.out.2 bU (Fb aW.out.2 aK.out (by decide))⟩;have dF:=bS.trans cZ;obtain⟨A1,dG⟩:∃A1,A1=A0++x:=⟨_,rfl⟩;have kD:A1.length≤1200032:=by rw[dG,List.length_append];omega
     have fJ:0<A1.length:=by rw[dG,List.length_append];omega
     rw[←dG]at aX;have aO:B5f aP (.slice A2 (A0.length+32) c2) A1:=.inr ⟨aX.up,fJ,by omega⟩;have bD:=Lib.hid aO;have kE:=Lib.hid dG;have aY:=Lib.hid dD;clear aO aX bU fI jZ kC aU cZ bS aK cW aW cX cY dG dD;refine (Ca _ A1 (UInt64.ofNat kn) aP bD.out (by omega)).mono ?_;rintro y lS ⟨kF,rfl,bX,iL⟩;obtain⟨A3,eM⟩:∃A3,A3=A1++J9 (UInt64.ofNat kn):=⟨_,rfl⟩;rw[←eM]at bX;have kH:A3.length≤1200040:=by rw[eM,List.length_append,Q8];omega
     have iM:=Lib.hid eM;have dI:=Lib.hid bX;clear eM bX bD fE;go_wp2_with fail;go_loopw [14,105] (fun av jv w3=>∃(k1 k2:List (List UInt8)),jv=.int .i64 (k1.length:Int)∧ks=k1++k2∧J6 w3 aP.heap.size av (A3++k1.flatten)∧Below aP.heap.size aP w3) (fun _ jv _=>kn-(intOf jv).toNat)
     case atStart=>exact ⟨[],ks,rfl,rfl,by simpa using dI.out,iL⟩
     case round=>
      clear dI iL;obtain⟨k1,k2,rfl,aQ,aI,cK⟩:=hrel;have aL:kn=ks.length:=iK.out;cases k2 with
      | nil=>
       have fK:decide (k1.length<kn)=false:=decide_eq_false (by rw[aL,aQ];simp);rw[List.append_nil]at aQ;subst aQ;have dJ:=dF.trans (cK.mono dF.size);have I3:=I6.up dJ;have eK:=Bk.row8 (n:=32) (dC.below cK dC.lt) bQ;have eN:=I3.more.look_ false Tryz.underlying110 A6m bQ;have dK:=Lib.hid ((I3.mr x).us);obtain⟨mv,bY⟩:∃y,y=gd0 m2 x:=⟨_,rfl⟩;rw[if_neg (by simp),←bY]at eN;rw[←bY]at dK;obtain⟨A7,dL⟩:∃y,y=A3++ks.flatten:=⟨_,rfl⟩;have dM:ks.flatten.length≤32000:=by have h1:=Cd (ks:=ks) aY.out.1;omega
       have kI:A7.length≤1300000:=by rw[dL,List.length_append];omega
       have fL:0<A7.length:=by rw[dL,List.length_append,iM.out,List.length_append,Q8];omega
       rw[←dL]at aI;have kJ:=Lib.hid dL;have kK:=Lib.hid aI;clear bY dL aI dM I3 aL;go_wp2_with fail;refine (B6d mv _ wr dK.out (Nat.le_trans (iG.out x) (by omega))).mono ?_;rintro y iN ⟨fM,rfl,dO,eO⟩;have lT:(hbL (moreE us L x)).length≤2000:=by
        unfold hbL;have kL:∀u∈moreE us L x,u.Ok:=fun u hu=>cO.out u (Hi us L u (List.mem_filter.1 hu).1);rw[List.length_append,Q8,Js kL];have:=iG.out x;omega
       have aO:B5f iN u14 A7:=.inr ⟨((kK.out.below eO (Nat.le_refl _)).up),fL,by omega⟩;have bD:=Lib.hid aO;have dQ:=Lib.hid dO;clear aO dO eN eK;go_wp2_with fail;refine (Rn u14 fM A7 _ iN bD.out dQ.out (by omega) (by omega)).mono ?_;rintro y lU ⟨kM,rfl,dS,kN⟩;have fN:=C0 (C0 dJ eO dJ.size) kN (Nat.le_trans dJ.size eO.size);have bZ:=dS.less (base':=w6.heap.size) (Nat.le_trans dJ.size eO.size);have e1:A3f A7 (hbL (moreE us L x))=pl++((s1++[x]).flatMap fun x=>goB x (lookE L x) (moreE us L x)):=by rw[kJ.out,iM.out,kE.out,jY.out,iK.out,jX.out];simp[A3f,goB]
       rw[e1]at bZ;have fO:=Lib.hid bZ;have lV:s1.length<1000000:=by omega
       clear e1 bZ dS bD dQ;go_wp2_with fail;go_roundw;case rel=>exact ⟨s1++[x],s3,by simp,by rw[iI.out];simp,fO.out,fN⟩
       case measure=>exact Ue iH
      | cons z k3=>
       have fK:decide (k1.length<kn)=true:=decide_eq_true (by rw[aL,aQ];simp);have fP:k1.length<kn:=by rw[aL,aQ];simp
       have fQ:z.length=32:=aY.out.1 z (by rw[aQ];simp);obtain⟨gk,ok,rfl,lW,iO⟩:=(((aY.out.below cK (Nat.le_refl _)).hs).less (Nat.zero_le _)).at_ (m:=k1.length) (k:=z) (by rw[aQ];simp);have iP:=(Bk.new wr 35 (c8 (z8 32))).can8 (n:=32) (by simp);obtain⟨fR,aZ⟩:∃y,y=C5 (wr.alloc (Obj.cells (c8 (z8 32)).toArray 35)) ⟨wr.heap.size,0,none⟩ (c8 z):=⟨_,rfl⟩;have kz:Bk fR wr.heap.size 35 (c8 z):=by rw[aZ];exact Bk.fresh wr _ (by simp[fQ])
       have fS:Below wr.heap.size wr fR:=by rw[aZ];exact C1 ((Below.refl _ _).alloc (Nat.le_refl _) _) (Nat.le_refl _) _
       have bF:=C0 cK fS cK.size;obtain⟨A6,eP⟩:∃y,y=A3++k1.flatten:=⟨_,rfl⟩;rw[←eP]at aI;have fT:=Lib.hid (aI.below fS (Nat.le_refl _));have fU:=Lib.hid (Bk.byAll kz fQ (by decide));have fV:aP.heap.size≤fR.heap.size:=bF.size;have dM:k1.flatten.length≤32000:=by have h1:=Cd (ks:=k1) (fun y hy=>aY.out.1 y (by rw[aQ];simp[hy]));omega
       have fW:A6.length+z.length≤70368744177664:=by rw[eP,List.length_append];omega
       have lX:k1.length<1000000:=by omega
       have kO:=Lib.hid eP;have kQ:=Lib.hid aQ;clear aQ aI cK fS kz aL dM eP;go_wp2_with (first | (at_builtin;rw[←aZ];refine Tb _ aP.heap.size _ A6 rfl _ _ rfl rfl fT.out _ rfl z 0 _ fU.out fW fV ?_;intro A5 c5 lY lZ mA cA fX fY fZ) | fail);rw[List.length_append,fQ]at cA;have gC:=Lib.hid cA;have cB:=bF.trans fX;clear cA fY fZ aZ;go_roundw;case rel=>exact ⟨k1++[z],k3,by simp,by rw[kQ.out];simp,by rw[List.flatten_append,List.flatten_singleton,←List.append_assoc,←kO.out];exact gC.out,cB⟩
       case measure=>exact Ue fP
  | cons u aH=>
   have fB:decide (aA.length<n)=true:=decide_eq_true (by rw[cQ,aC];simp);have iH:aA.length<n:=by rw[cQ,aC];simp
   obtain⟨gu,rfl,mB,kS,cC⟩:=(hU.below I.below).row_ (i:=aA.length) (u:=u) (by rw[aC];simp);have eQ:=cC.len;have aR:=cC.id;obtain⟨w4,cL⟩:∃x,x=C5 (wr.alloc (Obj.cells (P9 (Ic 129)).toArray 48)) ⟨wr.heap.size,0,none⟩ (P9 u):=⟨_,rfl⟩;have bR:=(Bk.new wr 48 (P9 (Ic 129))).canvc (n:=129) (Cr _).len;have ku:Bk w4 wr.heap.size 48 (P9 u):=by rw[cL];exact (Bk.new wr 48 (P9 (Ic 129))).putvc (n:=129) (Cr _).len eQ
   have b4:Below wr.heap.size wr w4:=by rw[cL];exact C1 ((Below.refl _ _).alloc (Nat.le_refl _) _) (Nat.le_refl _) _
   have I4:=I.up b4;have kT:Hid (∀b,(gd0 m2 u.id).ownBlock=some b→b<wr.heap.size):=Lib.hid (fun b h=>((I.mr u.id).2.lt b h).2);have mD:=I.z;have cD:=UV.loadid ku cC;have eR:=I4.now.look_ true Tryz.underlying54 A8j aR;rw[if_pos rfl,show w.heap.size+2=w.heap.size+1+1 from rfl]at eR;obtain⟨kv,gD⟩:∃kv,kv=gd0 m1 u.id:=⟨_,rfl⟩;obtain⟨th,gF⟩:∃th,th=(m1 u.id).isSome:=⟨_,rfl⟩;rw[←gD,←gF]at eR;have iQ:=Lib.hid gD;have gG:=Lib.hid gF;have HS:=Lib.hid aC;have bN:=Lib.hid aT;have HM:=Lib.hid aJ;rw[cL]at cD;clear aC aT aJ cQ I b4 gD gF;go_wp2_with fail;rw[←cL];rw[←cL]at cD;clear cL bR kS;rename_i hKK K0 hK0
   have dT:=Lib.hid hKK;clear hKK;rw[eR];go_wp2_with fail;refine dT.out _ _ ?_;clear dT eR;refine wp_seq_k fun K3 hK3=>?_;refine Ym [10,35,36,37,38,39,40] (fun f W=>∃y,f 10=y∧KS W y (lookE (applyE aA L) u.id)∧Below w4.heap.size w4 W) ?_ ?_
   ·clear hK3;cases th with
    | true=>
     have hks:KS w4 kv (lookE (applyE aA L) u.id):=by
      have h1:=gG.out;have h2:=iQ.out;unfold gd0 at h2;cases hm:m1 u.id with
      | none=>rw[hm]at h1;cases h1
      | some x=>
       rw[hm,Option.getD_some]at h2;obtain⟨q1,q2,_⟩:=I4.nw u.id x hm;rw[h2];exact q1.ks0 q2
     go_wp2_with fail;exact ⟨by kernel_rfl,hks,Below.refl _ _⟩
    | false=>
     have hm:m1 u.id=none:=by
      have h1:=gG.out;cases hm:m1 u.id with
      | none=>rfl
      | some x=>rw[hm]at h1;cases h1
     have iR:lookE (applyE aA L) u.id=lookE L u.id:=by rw[Ft u.id (fun y hy=>cO.out y (by rw[HS.out];simp[hy])) aS,I4.nw0 _ hm];simp
     have bP:C6 w4 ⟨w.heap.size,0,none⟩ 4=some [Value.int .i64 (e:Int),.pointer ap,.int .i64 0,.map mb]:=by have:=I4.box.rows;rwa [eZ.out]at this
     have kU:=Lib.hid iR;clear iR hm;go_wp2_with fail;refine (A4w (hD.up I4.below) u.id aR (Nat.le_trans (hks _) (by omega))).mono ?_;rintro x w5 ⟨y,rfl,⟨o1,o2⟩,b5⟩;go_wp2_with fail;refine ⟨by kernel_rfl,?_⟩;change KS w5 y _;rw[kU.out];by_cases h0:lookE L u.id=[]
     ·exact .inl ⟨o2 h0,h0⟩
     ·exact o1.ks0 (List.length_pos_iff.2 h0)
   ·rintro f w5 ⟨fk,iS,iT,b5⟩;dsimp only[A8t,List.foldl];simp only[List.set_cons_succ,List.set_cons_zero];refine hK3 _ _ ?_;clear hK3 iQ gG cD;rw[iS];clear iS;have kV:=Lib.hid iT;have I5:=I4.up b5;have gH:=ku.below b5 ku.lt;have dM:(lookE (applyE aA L) u.id).length≤1000000:=by rw[Ft u.id (fun y hy=>cO.out y (by rw[HS.out];simp[hy])) aS,List.length_append,List.length_map];have h1:=hks u.id;have h2:(moreE aA L u.id).length≤aA.length:=Nat.le_trans (List.length_filter_le _ _) (Mn aA L);omega
    have kW:=Bk.rowvc (n:=129) gH eQ;clear iT I4 ku b5;go_wp2_with fail;refine (Th fk _ u cC w5 kV.out dM).mono ?_;rintro x w6 ⟨rk,rfl,cM,b6⟩;have I6:=I5.up b6;have dU:rk.ownBlock=none∨rk.ownBlock≠u6.ownBlock:=by
     cases hv:rk.ownBlock with
     | none=>exact .inl rfl
     | some b1=>
      refine .inr fun e2=>?_;have q1:=(cM.2.lt b1 hv).1;have q2:=(I5.ids.2.lt b1 e2.symm).2;omega
    have cM:=cM.less I5.z;have gI:=gH.below b6 gH.lt;obtain⟨en,gJ⟩:∃x,x=Az (lookE (applyE aA L) u.id) u:=⟨_,rfl⟩;have HE:=Lib.hid gJ;rw[←gJ];clear kW gJ I5;by_cases h0:en=0
    ·have kZ:(en==0)=true:=by rw[h0];rfl
     have cE:Aw (lookE (applyE aA L) u.id) u=true:=Db.1 (HE.out.symm.trans h0);have iU:=Qc cE;rw[iU]at cM;have gK:=UV.loadid gI cC;have eS:=I6.more.look_ false Tryz.underlying110 A6m aR;rw[if_neg (by simp)]at eS;obtain⟨Am,cm,bY,-,-⟩:=O7 (I6.mr u.id).2;obtain⟨q,hq⟩:∃q,q=(moreE aA L u.id).length:=⟨_,rfl⟩;rw[bY,←hq]at eS;have dW:=Lib.hid bY;have HQ:=Lib.hid hq;have dX:=Lib.hid cM;have iV:=Lib.hid cE;have iW:=Lib.hid eS;obtain⟨Ai,ci,rfl,-,-⟩:=I6.ids.form;have cR:S.length≤12:=by
      have h1:S.length≤(Z0 aA L).length:=by
       have bM:S ⊆ (Z0 aA L).map (·.id):=fun x hx=>by
        have h2:=(HM.out x).1 hx;cases hq:moreE aA L x with
        | nil=>exact absurd hq h2
        | cons y l=>
         have hy:y∈moreE aA L x:=by rw[hq];simp
         exact List.mem_map.2 ⟨y,(List.mem_filter.1 hy).1,Pm y hy⟩
       have:=Kc bN.out bM;simpa using this
      have:=cP;omega
     obtain⟨s,hs⟩:∃s,s=S.length:=⟨_,rfl⟩;have iX:=Lib.hid hs;rw[←hs]at dU cR ⊢;have eT:=Lib.hid gI;have bG:=I6;rw[←hs]at bG;clear h0 iU cM cE bY hq HE eS hs gI;go_wp2_with fail;rename_i hKK K0 hK0
     have dT:=Lib.hid hKK;clear hKK;rw[iW.out];clear iW;go_wp2_with fail;refine dT.out _ _ ?_;clear dT;refine Ym [6,55,56,57,58,59] (fun f W=>∃S',StI w W dc L aA (f 6) S' m1 m2 k∧S'.Nodup∧(∀x,x∈S'↔moreE (aA++[u]) L x≠[])∧Bk W wr.heap.size 48 (P9 u)∧OwnK W (w.heap.size+3) rk (lookE (applyE aA L) u.id++[u.key])∧(rk.ownBlock=none∨rk.ownBlock≠(f 6).ownBlock)) ?_ ?_
     ·by_cases hq0:q=0
      ·have lC:((q:Int)==0)=true:=by rw[hq0];rfl
       have iY:moreE aA L u.id=[]:=List.eq_nil_of_length_eq_zero (by rw[←HQ.out];exact hq0);have bL:∀x,x∈S++[u.id]↔moreE (aA++[u]) L x≠[]:=fun x=>by
        rw[List.mem_append,HM.out x,Hc];by_cases e:u.id=x
        ·subst e;simp[iV.out]
        ·have e2:¬ x=u.id:=fun h=>e h.symm;simp[e,e2]
       have aT:(S++[u.id]).Nodup:=by rw[List.nodup_append];refine ⟨bN.out,by simp,fun a ha b hb e=>?_⟩;rw[e,List.mem_singleton.1 hb]at ha;exact (HM.out u.id).1 ha iY
       have gL:=Lib.hid bL;have gM:=Lib.hid aT;have bA:∀x∈c8 u.id,x.oneCell'=true:=fun x hx=>by obtain⟨y,_,rfl⟩:=List.mem_map.1 hx;rfl
       have iE:=bG.z;have gN:S.length+1≤68719476736:=by rw[←iX.out];omega
       clear bL hq0 iY aT;go_wp2_with (first | (at_builtin;refine Ru 26 35 (A8 (z8 32)) 32 32 Tryz.underlying26 A3s (by simp[A8,Value.cells]) (by decide) (by decide) rfl _ _ rfl rfl bG.ids.2 (c8 u.id) (by simp[aR]) bA _ rfl rfl rfl gN iE ?_;intro A3 c3 w7 lD lE lF lG dY aF) | fail);have dY:w6.grownBy w7 (Value.slice Ai s ci).ownBlock:=dY;have aF:(Value.slice A3 (S.length+1) c3).ownBlock=(Value.slice Ai s ci).ownBlock∨(Value.slice A3 (S.length+1) c3).ownBlock=some (w6.heap.size+1):=aF;have lH:OwnK w7 (w.heap.size+3) (.slice A3 (S.length+1) c3) (S++[u.id]):=by
        refine ⟨fun x hx=>?_,?_⟩
        ·rcases List.mem_append.1 hx with hx | hx
         ·exact bG.ids.1 x hx
         ·rw[List.mem_singleton.1 hx];exact aR
        ·have lI:c8 (S++[u.id]).flatten=c8 S.flatten++c8 u.id:=by simp[c8]
         rw[lI,List.length_append];exact lF
       refine ⟨by kernel_rfl,S++[u.id],bG.grow lH lG dY aF,gM.out,gL.out,eT.out.grown dY ((Ae bG.ids.2).ne (Fw eT.out) (by decide)),⟨dX.out.1,World.ownsRow.kept dX.out.2 dY dU⟩,?_⟩;change rk.ownBlock=none∨rk.ownBlock≠(Value.slice A3 (S.length+1) c3).ownBlock;rcases aF with h | h
       ·rw[h];exact dU
       ·rw[h];cases hv:rk.ownBlock with
        | none=>exact .inl rfl
        | some b1=>
         refine .inr fun e2=>?_;injection e2 with e2;have:=(dX.out.2.lt b1 hv).2;omega
      ·have lC:((q:Int)==0)=false:=by rw[beq_eq_false_iff_ne];omega
       have bL:∀x,x∈S↔moreE (aA++[u]) L x≠[]:=fun x=>by
        rw[HM.out x,Hc];by_cases e:u.id=x
        ·subst e;have h1:moreE aA L u.id≠[]:=fun h=>hq0 (by rw[HQ.out,h];rfl);simp[h1]
        ·simp[e]
       have gL:=Lib.hid bL;clear bL hq0;go_wp2_with fail;exact ⟨by kernel_rfl,S,bG,bN.out,gL.out,eT.out,dX.out,dU⟩
     ·rintro f w7 ⟨S',I7,dZ,eA,iZ,jA,cF⟩;dsimp only[A8t,List.foldl];simp only[List.set_cons_succ,List.set_cons_zero];obtain⟨mE,h6⟩:∃y,y=f 6:=⟨_,rfl⟩;rw[←h6]at I7 cF ⊢;clear h6 I6 bG eT dX iX dU gK;have gO:=Lib.hid dZ;have gQ:=Lib.hid eA;clear dZ eA;go_wp2_with fail;have S1:Below w7.heap.size w7 w7.drew:=(Below.refl _ _).drew;have I8:=I7.up S1;have cN:=iZ.drew;have jB:=jA.below S1 (Nat.le_refl _);clear S1 I7 iZ jA;refine D9 (fun W=>Bk W wr.heap.size 48 (P9 u)) (by kernel_rfl) ?_;refine C4 (A:=?mF) [0,1,2,3,4,5,6,7,8,9,11] (by kernel_rfl) (by kernel_rfl) rfl (by kernel_rfl) (by kernel_rfl) cN (h:=fun W hW=>?eU) (hr:=?mG);case eU=>
       have f1:=UV.loadid hW cC;have f2:=Bk.rowvc (n:=129) hW eQ;simp only[pick,List.getElem?_cons_zero,List.getElem?_cons_succ];repeat (go_big_quiet_step (fail))
       refine wpQuiet_nil ?_;rfl
      refine Bn [zv 10 70 (.slice Am q cm),zl 12 72 48 (P9 u)] (by kernel_rfl) (fun W hW=>cN.below hW cN.lt) ?mo ?st ?re;case mo=>exact List.forall_mem_cons.2 ⟨V8 _ _ _,List.forall_mem_cons.2 ⟨zl_mono _ _ _ _,fun _ h=>by cases h⟩⟩
      case st=>
       refine List.forall_mem_cons.2 ⟨?lJ,List.forall_mem_cons.2 ⟨?lK,fun _ h=>by cases h⟩⟩;case lJ=>
        intro o ho us W hW hp Q' hQ';obtain rfl:=Option.some.inj ho;clear hp ho;have eN:=(I8.up hW).more.look_ false Tryz.underlying110 A6m aR;rw[if_neg (by simp),dW.out,←HQ.out]at eN;rw[C7]at hQ' ⊢;dsimp only[D8,H9,List.foldl,zv,zl]at hQ' ⊢;simp only[List.set_cons_succ,List.set_cons_zero];go_wp2_with fail;exact F0 (hQ' _ _ (Below.refl _ _) rfl (fun h=>by cases h)) (by kernel_rfl)
       case lK=>intro o ho us W hW hp Q' hQ';obtain rfl:=Option.some.inj ho;clear hp ho;rw[C7]at hQ' ⊢;dsimp only[D8,H9,List.foldl,zv,zl]at hQ' ⊢;simp only[List.set_cons_succ,List.set_cons_zero];go_wp2_with fail;exact F0 (hQ' _ _ ((Below.refl _ _).alloc (Nat.le_refl _) _) ⟨_,rfl,Bk.new W _ (P9 u)⟩ (fun h=>by cases h)) (by kernel_rfl)
      intro vs w8 b8 hg gR aO;have jC:vs 10=.slice Am q cm:=hg _ (List.mem_of_getElem? (i:=0) rfl);obtain⟨p,eV,K4⟩:=hg _ (List.mem_of_getElem? (i:=1) rfl);have eV:vs 12=.slice (some ⟨p,0,none⟩) 1 1:=eV;have K4:Bk w8 p 48 (P9 u):=K4;rw[C7];dsimp only[H9,List.foldl,zv,zl];simp only[List.set_cons_succ,List.set_cons_zero];rw[jC,eV];have I9:=I8.up b8;have jD:=cN.below b8 cN.lt;have eW:=jB.below b8 (Nat.le_refl _);clear hg gR aO jC eV b8 I8 cN jB;have aG:w8.ownsRow (w.heap.size+3) 48 129 (.slice Am q cm) q ((moreE aA L u.id).flatMap P9):=by
       have:=(I9.mr u.id).2;rw[dW.out,←HQ.out]at this;exact this
      have lM:=I9.z;have lN:q≤12:=by have h1:(moreE aA L u.id).length≤(Z0 aA L).length:=List.length_filter_le _ _;have h2:=cP;rw[HQ.out];omega
      have jE:(Value.slice Am q cm).ownBlock≠some wr.heap.size:=fun e2=>by
       have:=kT.out wr.heap.size (by rw[dW.out,←HQ.out];exact e2);omega
      have jF:(Te (Ic 129)).cells.size=129:=by simp[Te,P9,Ic,Value.cells]
      have bA:∀x∈P9 u,x.oneCell'=true:=Tp u;have jG:(P9 u).length=1*129:=by rw[Be,eQ]
      have bP:Rd w8 0 w8.heap.size (some ⟨p,0,none⟩) (P9 u):=.inr ⟨p,0,rfl,Nat.zero_le _,K4.lt,fun j u hj=>by rw[Nat.zero_add];exact K4.at_ hj⟩;have eU:q+1≤68719476736:=by omega
      have jH:=Lib.hid bP;clear bP K4 lN;refine C2 13 (by kernel_rfl) (by rfl) (by rfl) (fun Q' hQ'=>?_);dsimp only[D8];have bH:=Lib.hid hQ';clear hQ';go_wp2_with (first | (at_builtin;refine A9z 44 (Te (Ic 129)) 136 Tryz.underlying44 We jF (by decide) (by decide) rfl _ _ rfl rfl aG (some ⟨p,0,none⟩) 1 1 rfl (P9 u) jG 0 w8.heap.size jH.out bA eU lM ?_;intro A4 c4 w9 mH mI gT jI bI bB) | fail);have bI:w8.grownBy w9 (Value.slice Am q cm).ownBlock:=bI;have bB:(Value.slice A4 (q+1) c4).ownBlock=(Value.slice Am q cm).ownBlock∨(Value.slice A4 (q+1) c4).ownBlock=some w8.heap.size:=bB;have cG:=jD.grown bI (fun e2=>jE e2.symm);have cH:∀b,b<w.heap.size+3→some b≠(Value.slice Am q cm).ownBlock:=fun b hb e2=>by have:=(aG.lt b e2.symm).1;omega
      have gU:=I9.now.kept bI (cH _ (by omega));have eB:=I9.more.kept bI (cH _ (by omega));have eC:OwnK w9 (w.heap.size+3) rk (lookE (applyE aA L) u.id++[u.key]):=⟨eW.1,World.ownsRow.kept eW.2 bI (Fb eW.2 aG (by decide))⟩;have jJ:k<maxLen:=by have:=I9.hn;unfold maxLen;omega
      obtain⟨D1,jK,bJ⟩:=gU.put aR rk;refine bH.out _ _ cG ?_;clear bH jH bA jG eU jF jD;refine C2 14 (by kernel_rfl) (by rfl) (by rfl) (fun Q' hQ'=>?_);dsimp only[D8];have bH:=Lib.hid hQ';clear hQ';go_wp2_with (first | (at_mapUpdate;refine wpList_mapUpdate_own _ rfl _ _ _ 54 rfl 35 26 Cm Tryz.underlying54 RV (w.heap.size+2) k D1 rfl jK jJ _ _ (Uy u.id) rfl rfl (Gd aR) (.held rk) [] rfl ?_;intro fH aM aB) | fail);have eD:=bJ fH aM;have eE:=eB.kept aB (fun e2=>by injection e2 with e2;omega);have cI:=cG.grown aB (fun e2=>by injection e2 with e2;omega);obtain⟨D2,jL,bK⟩:=eE.put aR (.slice A4 (q+1) c4);refine bH.out _ _ cI ?_;clear bH jK bJ aM eB cG;refine C2 15 (by kernel_rfl) (by rfl) (by rfl) (fun Q' hQ'=>?_);dsimp only[D8];have bH:=Lib.hid hQ';clear hQ';go_wp2_with (first | (at_mapUpdate;refine wpList_mapUpdate_own _ rfl _ _ _ 110 rfl 35 44 Cm Tryz.underlying110 RV (w.heap.size+1) k D2 rfl jL jJ _ _ (Uy u.id) rfl rfl (Gd aR) (.held (.slice A4 (q+1) c4)) [] rfl ?_;intro aP aN aD) | fail);have eF:=bK aP aN;have eG:=cI.grown aD (fun e2=>by injection e2 with e2;omega);refine bH.out _ _ eG ?_;clear bH jL bK aN eE cI;refine E5 (by kernel_rfl) ?_;have eH:OkE (applyE aA L):=OkE.apply (fun y hy=>cO.out y (by rw[HS.out];simp[hy])) aS
      have jM:=I9.acc (u:=u) (kv:=rk) (a:=.slice A4 (q+1) c4) iV.out cC eH eC cF (by rw[HQ.out]at gT ⊢;exact gT) jI (by rw[dW.out,←HQ.out];exact bI) (by rw[dW.out,←HQ.out];exact bB) aB eD aD eF;have gV:=Lib.hid jM;clear jM eH jI bI bB gT aB aD eF eD eC cH aG eG I9 eW cF jE;go_wp2_with fail;go_roundw;case rel=>exact ⟨aA++[u],aH,S',_,_,k+1,by simp,by rw[HS.out];simp,gV.out,gO.out,gQ.out⟩
      case measure=>simp only[intOf];omega
    ·have kZ:(en==0)=false:=beq_eq_false_iff_ne.2 h0;have cE:Aw (lookE (applyE aA L) u.id) u=false:=by
      cases hb:Aw (lookE (applyE aA L) u.id) u with
      | false=>rfl
      | true=>exact absurd (HE.out.trans (Db.2 hb)) h0
     have I7:=Lib.hid (I6.skip cE);have eA:∀x,x∈S↔moreE (aA++[u]) L x≠[]:=fun x=>by rw[Hc,cE];simpa using HM.out x
     have gQ:=Lib.hid eA;clear h0 cE eA;go_wp2_with fail;go_roundw;case rel=>exact ⟨aA++[u],aH,S,m1,m2,k,by simp,by rw[HS.out];simp,I7.out,bN.out,gQ.out⟩
     case measure=>simp only[intOf];omega
end
section
theorem B1t:∀ {gs:List Gr} {p:Pt} {pr:Option (List UInt8)} {e:Int},Gy p pr gs=.error e→e≠0
 | [],p,pr,e,h=>by cases h
 | q::gs,p,pr,e,h=>by
  rw[A0b]at h;split at h
  ·injection h with h;omega
  ·split at h
   ·rename_i e' he
    injection h with h;subst h;exact B8h he
   ·exact B1t h
theorem B7c {a b b' l:List UInt8} (h:A2f a b l=0) (hb:b≠b'):A2f a b' l=130:=by
 unfold A2f at h ⊢;cases hp:Da l with
 | error e=>
  rw[hp]at h;exact absurd h (A3h hp)
 | ok r=>
  rw[hp]at h;dsimp only at h ⊢;by_cases h1:r.1.root≠a
  ·rw[if_pos h1]
  ·rw[if_neg h1]at h ⊢;cases hc:Gy r.1 none r.2 with
   | error e=>
    rw[hc]at h;exact absurd h (B1t hc)
   | ok p=>
    rw[hc]at h;dsimp only at h ⊢;by_cases h2:p.root≠b
    ·rw[if_pos h2]at h;cases h
    ·rw[if_pos (fun e=>hb ((Classical.not_not.1 h2).symm.trans e))]
theorem C5i:((Tr.lf eq9 (U0 [h1 2])).root==h1 1)=false:=by decide +kernel
theorem D3l:(Tr.e.root==h1 1)=false:=by decide +kernel
theorem D7w (a:List UInt8) (v:Int) (b:List UInt8):(mkU a v b).id=Ac a:=rfl
theorem C4y {t:Tr} (ht:IsTree t (applyE [u1] [])):t.root≠h1 1:=by
 have ho:=ht.ok;have hp:=ht.prs;intro e;rw[show applyE [u1] []=Bs [] u1 by unfold applyE;rw[List.foldl_cons,List.foldl_nil]]at hp;unfold Bs at hp;split at hp
 ·rw[show Bm u1.id u1.key []=[(u1.id,u1.key::[])] by unfold Bm;simp[lookE]]at hp;have h:t=.lf u1.id (U0 [u1.key]):=C1v ho (hp.trans (by unfold pairsE;rw[List.map_cons,List.map_nil]));rw[h,←B6o,D7w,F3h,B6o,D7v]at e;have:=C5i;rw[e]at this;simp at this
 ·have h:t=.e:=by
   cases t with
   | e=>rfl
   | lf a b=>cases hp
   | nd l r=>
    have h2:(Tr.nd l r).pairs.length=0:=by rw[hp];rfl
    rw[←Tr.len_pairs]at h2;have h3:2≤l.len+r.len:=ho.2.1;have e:(Tr.nd l r).len=l.len+r.len:=rfl;omega
  have:=D3l;rw[←h,e]at this;simp at this
theorem Xo {us:List UV} {L:List En} {S:List (List UInt8)} {t:Tr} (hu:∀u∈us,u.Ok) (okE:OkE L) (ht:IsTree t L) (hm:∀x,x∈S↔moreE us L x≠[]) (hnd:S.Nodup) (hL:L.length≤1000) (hks:∀x,(lookE L x).length≤1000) (ha:(Z0 us L).length≤12) :
 (Mk (t.cut S 0).bytes (S.map fun x=>(x,lookE L x,moreE us L x))).length≤1099511627776:=by
 have aB:(t.cut S 0).bytes.length≤579001:=by
  have h1:=Vs ht.ok (by omega) S 0;have h2:t.len≤1000:=by rw[Tr.len_pairs,ht.prs,Y2];exact hL
  have h3:t.len*(65+2*(257-0))≤1000*579:=Nat.mul_le_mul h2 (by omega);omega
 have aC:∀x∈S,∃u∈us,u∈Z0 us L∧u.id=x:=fun x hx=>by
  cases hq:moreE us L x with
  | nil=>exact absurd hq ((hm x).1 hx)
  | cons y l=>
   have hy:y∈moreE us L x:=by rw[hq];simp
   have h2:=(List.mem_filter.1 hy).1;exact ⟨y,Hi us L y h2,h2,Pm y hy⟩
 have aD:S.length≤12:=by
  have aA:S ⊆ (Z0 us L).map (·.id):=fun x hx=>by
   obtain⟨u,_,h2,h3⟩:=aC x hx;exact List.mem_map.2 ⟨u,h2,h3⟩
  have h1:=Kc hnd aA;have h2:=ha;rw[List.length_map]at h1;omega
 have hg:∀x∈S,(goB x (lookE L x) (moreE us L x)).length≤40000:=fun x hx=>by
  obtain⟨u,h1,_,h3⟩:=aC x hx;have h4:(moreE us L x).length≤(Z0 us L).length:=List.length_filter_le _ _;have h5:=ha;exact B8e (by rw[←h3];exact (hu u h1).id) (Pe okE.key x) (hks x) (fun y hy=>hu y (Hi us L y (List.mem_filter.1 hy).1)) (by omega)
 have h1:=Nx hg;have h2:S.length*40000≤12*40000:=Nat.mul_le_mul_right _ aD;unfold Mk;rw[List.flatMap_map];simp only[List.length_append,Q8];omega
attribute [local go_sem ↓ high] Fs Wa
theorem B6g (w:World):Calls Tryz.prog 11 #[] w fun x w'=>x=.returned (.bool true)∧Below w.heap.size w w':=by
 have bH:=A1v;go_enter Tryz.func11,Tryz.ntmps11;go_wp2_with fail;refine (A9n (h1 1) 1 (h1 2) (Dm 1) (Dm 2) w).mono ?_;rintro x w2 ⟨rfl,b2⟩;rw[B6o];obtain⟨u,hu⟩:∃u,u=u1:=⟨_,rfl⟩;have aK:u.Ok:=by rw[hu];exact E7m
 have aY:Hid (∀ {t:Tr},IsTree t (applyE [u] [])→t.root≠h1 1):=Lib.hid (by rw[hu];exact C4y);rw[←hu];clear hu;have aM:=aK.len;have bP:=aK.id;have aB:=(Bk.new w2 48 (P9 (Ic 129))).canvc (n:=129) (Cr _).len;obtain⟨w3,aH⟩:∃x,x=C5 (w2.alloc (Obj.cells (P9 (Ic 129)).toArray 48)) ⟨w2.heap.size,0,none⟩ (P9 u):=⟨_,rfl⟩;have ku:Bk w3 w2.heap.size 48 (P9 u):=by rw[aH];exact (Bk.new w2 48 (P9 (Ic 129))).putvc (n:=129) (Cr _).len aM
 have b3:Below w2.heap.size w2 w3:=by rw[aH];exact C1 ((Below.refl _ _).alloc (Nat.le_refl _) _) (Nat.le_refl _) _
 have B3:=C0 b2 b3 b2.size;have aN:w3.heap.size=w2.heap.size+1:=by rw[aH];simp
 have r3:=ku.rowvc (n:=129) aM;rw[aH]at r3;go_wp2_with fail;rw[←aH];clear aH aB r3 b3;have aN:=Lib.hid aN;generalize w2.heap.size=gu at *;have B4:=B3.alloc B3.size (Obj.cells (P9 u).toArray 48);have aO:=ku.alloc (Obj.cells (P9 u).toArray 48);refine (Sd _ 0 [] 0 [u] _ (w3.alloc (Obj.cells (P9 u).toArray 48)) (Bh.nil _) (C5f w3 aN.out aK) (by omega) (by simp) (by simp) (fun x=>by simp[lookE])).mono ?_;rintro x w5 ⟨dv,rfl,hD,b5⟩;obtain⟨ap,mb,rfl⟩:=hD.form;rw[show ((0+1:Nat):Int)=1 from rfl]at hD ⊢;have B5:=C0 B4 b5 B4.size;have aP:=aO.below b5 aO.lt;clear b5 aO B4 ku B3 b2;have k0:=Bk.new w5 56 [.int .i64 0,.pointer none,.int .i64 0,.map none];have aB:E4 (w5.alloc (Obj.cells #[.int .i64 0,.pointer none,.int .i64 0,.map none] 56)) ⟨w5.heap.size,0,none⟩ 4=true:=k0.can (by simp);obtain⟨w6,aI⟩:∃x,x=C5 (w5.alloc (Obj.cells #[.int .i64 0,.pointer none,.int .i64 0,.map none] 56)) ⟨w5.heap.size,0,none⟩ [.int .i64 1,.pointer ap,.int .i64 0,.map mb]:=⟨_,rfl⟩;have kd:Bk w6 w5.heap.size 56 [.int .i64 1,.pointer ap,.int .i64 0,.map mb]:=by rw[aI];exact k0.puts (by simp)
 have b6:Below w5.heap.size w5 w6:=by rw[aI];exact C1 ((Below.refl _ _).alloc (Nat.le_refl _) _) (Nat.le_refl _) _
 have aZ:=hD.up b6;have bA:=aP.below b6 aP.lt;have B6:=C0 B5 b6 B5.size;have bI:Hid (w6.heap.size=w5.heap.size+1):=Lib.hid (by rw[aI];simp);have r5:=bA.rowvc (n:=129) aM;rw[aI]at r5;clear k0 hD aP B5 b6;go_wp2_with fail;rw[←aI];clear aI aB r5;have B7:=B6.alloc B6.size (Obj.cells (P9 u).toArray 48);have b7:Below w6.heap.size w6 (w6.alloc (Obj.cells (P9 u).toArray 48)):=(Below.refl _ _).alloc (Nat.le_refl _) _;have bB:=aZ.up b7;have aQ:=kd.below b7 kd.lt;have aR:IsTree Tr.e []:=⟨Okt.nil,rfl⟩;have aC:∀y∈[u],y.Ok:=fun y hy=>by rw[List.mem_singleton.1 hy];exact aK
 have aD:∀x,(lookE [] x).length≤1000:=fun x=>by simp[lookE]
 have bC:=Lib.hid (C5f w6 bI.out aK);clear aZ kd bA B6 b7 bH;refine (A3i _ 0 0 [] [u] _ _ Tr.e (Bh.nil _) aR bC.out (by simp) (Nat.le_trans (Mn _ _) (by simp)) (by simp) aD).mono ?_;rintro x w8 ⟨sv,S,rfl,aS,aL,aT,aE,b8⟩;have aU:=bB.up b8;have bD:=aQ.below b8 aQ.lt;have B8:=C0 B7 b8 B7.size;obtain⟨t,ht⟩:=aU.tree;obtain⟨bJ,aJ⟩:=Zf aC OkE.nil aR ht aE aL aT (by simp) (fun x=>by simp[lookE]) (by simp);have aF:=Xo aC OkE.nil aR aE aT (by simp) aD (Nat.le_trans (Mn _ _) (by simp));have bE:t.root≠h1 1:=aY.out ht;have aJ:A2f (z8 32) t.root _=0:=aJ;have aV:=B7c aJ bE;obtain⟨bl,bF⟩:∃bl,bl=Mk ((Tr.e).cut S 0).bytes (S.map fun x=>(x,lookE [] x,moreE [u] [] x)):=⟨_,rfl⟩;rw[←bF]at aS aJ aV aF;have bK:=t.root_length;have bL:=Lib.hid aJ;have bM:=Lib.hid aV;have HT:=Lib.hid ht;clear bJ bF aJ aV aL aT aE bE aY ht aD aC bC aQ bB B7;have r8:C6 w8 ⟨w5.heap.size,0,none⟩ 4=some [.int .i64 1,.pointer ap,.int .i64 0,.map mb]:=bD.rows;go_wp2_with fail;refine (B2n aU HT.out).mono ?_;rintro x w9 ⟨rfl,b9⟩;have B9:=C0 B8 b9 B8.size;have aG:=Lib.hid ((aS.up).up b9);clear aS B8 b9 r8 aU bD;go_wp2_with fail;refine (Ri (z8 32) t.root (by simp) bK sv bl w9 aG.out aF).mono ?_;rintro x bN ⟨rfl,aW⟩;have aX:=C0 B9 aW B9.size;have aA:=Lib.hid (aG.out.up aW);rw[bL.out];clear aG B9 aW;go_wp2_with fail
 refine (Ri (z8 32) (h1 1) (by simp) (Dm 1) sv bl bN aA.out aF).mono ?_;rintro x bQ ⟨rfl,bG⟩;have bO:=C0 aX bG aX.size;rw[bM.out];clear aA aX bG;go_wp2_with fail;go_ret;exact ⟨rfl,bO⟩
end
end Go.Proofs.YtdfpoofbgjilgaaGreat
