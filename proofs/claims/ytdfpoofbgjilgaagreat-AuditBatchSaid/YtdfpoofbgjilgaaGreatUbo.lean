/- A part of the proof of AuditBatch. -/
import Derived.Test.YtdfpoofbgjilgaaGreatUbn
set_option linter.unusedVariables false
set_option linter.unusedSimpArgs false
set_option maxRecDepth 100000
set_option maxHeartbeats 40000000
namespace Go.Proofs.YtdfpoofbgjilgaaGreat
open Go Go.RowKit Sh
section
set_option maxRecDepth 100000
set_option maxHeartbeats 0
end
def Ns (w:World) (B:Nat) (v:Value) (l:List Int):Prop:=∃A c,v=.slice A l.length c∧l.length≤c∧c≤9223372036854775807∧Rd w 0 B A (l.map (Value.int .i64))
theorem Ns.at_ {w:World} {B:Nat} {A:Option Addr} {n c:Nat} {l:List Int} (h:Ns w B (.slice A n c) l) {i:Nat} {a:Int} (ha:l[i]?=some a):∃g o,A=some ⟨g,o,none⟩∧g<B∧w.cell? ⟨g,o+i,none⟩=some (.int .i64 a):=by
 obtain⟨A',c',h1,h2,h3,h4⟩:=h;injection h1 with h1;subst h1;have hi:i<l.length:=(List.getElem?_eq_some_iff.1 ha).1;rcases h4 with h4 | ⟨g,o,h5,h6,h7,h8⟩
 ·have:(l.map (Value.int .i64)).length=0:=by rw[h4];rfl
  rw[List.length_map]at this;omega
 ·exact ⟨g,o,h5,h7,h8 _ _ (by rw[List.getElem?_map,ha];rfl)⟩
section
theorem D3z (w:World) (raw:Result Next) (n:Int):C1p w raw (.int .u8 n)=if 0≤n∧n<256 then .ok (.value (A8 (h1 (UInt8.ofNat n.toNat)))) w else raw:=rfl
@[go_sem] theorem F2g (w : World) (raw : Result Next) (c : UInt8) : C1p w raw (.int .u8 (n8 c)) = .ok (.value (A8 (h1 c))) w := by
 have:=c.toNat_lt;have h:0≤n8 c∧n8 c<256:=by unfold n8;omega
 have h2:UInt8.ofNat (n8 c).toNat=c:=by unfold n8;simp
 rw[D3z,if_pos h,h2]
theorem D4i {k:Nat} (h:k<256):IntKind.u8.wrap (k:Int)=n8 (UInt8.ofNat k):=by
 rw[B6k];unfold C9d n8;rw[UInt8.toNat_ofNat',UInt8.toNat_ofNat'];omega
def C1i (o:Int):Nat:=(Fk o % 4).toNat
theorem D3c (o:Int):C1i o<4:=by
 unfold C1i;rw[UInt64.toNat_mod];exact Nat.mod_lt _ (by decide)
theorem C8d (o:Int):H6 (Fk o % 4)=((C1i o:Nat):Int):=rfl
theorem C3a (o:Int):(H6 (Fk o)).tmod 4=((C1i o:Nat):Int):=by unfold C1i H6;rw[UInt64.toNat_mod];rfl
theorem C8s {P:Program} {c:Code} {Q:Exit→Act→World→Prop} {a:Act} {w:World} (e0:Exit) (idx:List Nat) (F:(Nat→Value)→World→Prop) (h:Code.wp P c (fun e b w'=>e=e0∧b=A8t a idx (D1i b)∧F (D1i b) w') a w) (hk:∀f w',F f w'→Q e0 (A8t a idx f) w'):Code.wp P c Q a w:=
 Code.wp_mono (fun e b w' ⟨he,hb,hF⟩=>by rw[he,hb];exact hk _ _ hF) h
structure AbI (w wr : World) (b m : Nat) (ks : List Nat) (lv : Value) : Prop where
 lo:OwnU wr w.heap.size lv (abL uAB ks)
 mc:MapN wr b m (fun k=>ks.count k)
 four:∀k∈ks,k<4
 hb:w.heap.size≤b
 below:Below w.heap.size w wr
section
variable {w wr w' : World} {b m : Nat} {ks : List Nat} {lv : Value}
theorem AbI.up (h:AbI w wr b m ks lv) (hb:Below wr.heap.size wr w'):AbI w w' b m ks lv:=
 ⟨⟨h.lo.1,Q7 h.lo.2 hb (Nat.le_refl _)⟩,h.mc.below hb,h.four,h.hb,C0 h.below hb h.below.size⟩
theorem AbI.map (h:AbI w wr b m ks lv) {k:Nat} (hk:k<4) (hg:wr.grownBy w' (some b)) (hm:MapN w' b (m+1) (fun j=>if j=k then ks.count k+1 else ks.count j)) :
 OwnU w' w.heap.size lv (abL uAB ks)∧MapN w' b (m+1) (fun j=>(ks++[k]).count j)∧Below w.heap.size w w':=by
 refine ⟨⟨h.lo.1,World.ownsRow.kept h.lo.2 hg (B7v h.lo.2 h.mc.mc.row)⟩,?_,h.below.grown hg h.below.size (fun k e=>by cases e;exact h.hb)⟩;have e:(fun j=>(ks++[k]).count j)=fun j=>if j=k then ks.count k+1 else ks.count j:=by
  funext j;rw[Eo];by_cases e:j=k
  ·subst e;simp
  ·rw[if_neg e,if_neg fun h=>e h.symm];rfl
 rw[e];exact hm
end
theorem auditBatch_any (hA:AbOk uAB C3d) (v:Value) (l:List Int) (w:World) (hv:Ns w w.heap.size v l):Calls Tryz.prog 4 #[v] w fun x w'=>x=.returned (.bool true)∧Below w.heap.size w w':=by
 have HA:=Lib.hid hv;obtain⟨A,c,rfl,aP,gG,_⟩:=hv;obtain⟨n,hn⟩:∃n,n=l.length:=⟨_,rfl⟩;have HN:=Lib.hid hn;rw[←hn]at HA aP ⊢;clear hn;have eL:=@run_makeMap Tryz.prog;have cA:(Te (Ic 129)).cells.size=129:=by simp[Te,P9,Ic,Value.cells]
 go_enter Tryz.func4,Tryz.ntmps4;go_wp2_with fail;refine (B6g w).mono ?_;rintro x w1 ⟨rfl,b1⟩;obtain⟨W0,bN⟩:∃x,x=w1.alloc (.map #[] 0):=⟨_,rfl⟩;have B0:Below w.heap.size w W0:=by rw[bN];exact b1.alloc b1.size _
 have I0:AbI w W0 w1.heap.size 0 [] (.slice none 0 0):=⟨⟨fun u h=>(by cases h),World.ownsRow_nil _ _ _ _⟩,by rw[bN];exact MapN.made w1,fun k h=>(by cases h),b1.size,B0⟩;go_wp2_with fail;rw[←bN];clear bN B0 eL b1;generalize w1.heap.size=b at *;refine C8s (.exit 0) [3,5,6,7,21,22,23,24,25,26,27,28,29,30,31,32,33,34,35,36,37,38,39,40,41,42,43,44,45,46,47,48,49] (fun f W=>∃ks lv,f 3=lv∧ks.length≤8∧AbI w W b ks.length ks lv) ?_ ?_
 ·go_loopw [3,21] (fun lv x wr=>∃(i:Nat) (ks:List Nat),i≤n∧x=.int .i64 (i:Int)∧ks.length=i∧i≤8∧AbI w wr b ks.length ks lv) (fun _ x _=>n-(intOf x).toNat)
  case atStart=>exact ⟨0,[],by omega,rfl,rfl,by omega,I0⟩
  case round=>
   clear I0;obtain⟨i,ks,hi,rfl,eM,gH,I⟩:=hrel;by_cases hlt:i<n
   ·have hd:decide ((i:Int)<(n:Int))=true:=decide_eq_true (by omega);have eN:decide (i<n)=true:=decide_eq_true hlt;obtain⟨a,ha⟩:∃a,l[i]?=some a:=⟨_,List.getElem?_eq_getElem (by rw[←HN.out];exact hlt)⟩;obtain⟨g,o,rfl,hg,hc⟩:=HA.out.at_ ha;have bA:wr.cell? ⟨g,o+i,none⟩=some (.int .i64 a):=by rw[I.below.cell (p:=⟨g,o+i,none⟩) hg];exact hc
    by_cases h8:8≤i
    ·have eO:decide ((8:Int)≤(i:Int))=true:=decide_eq_true (by omega);have cB:decide (8≤i)=true:=decide_eq_true h8;go_wp2_with fail;exact ⟨trivial,by kernel_rfl,ks,_,rfl,by omega,I⟩
    ·have eO:decide ((8:Int)≤(i:Int))=false:=decide_eq_false (by omega);have cB:decide (8≤i)=false:=decide_eq_false h8;obtain⟨k,cY⟩:∃k,k=C1i a:=⟨_,rfl⟩;have hk:=D3c a;have eP:=Vi a;have hr:=C3a a;have eQ:=C8d a;rw[←cY]at hk hr eQ;have bB:=I.mc.look hk;have eR:IntKind.i64.wrap (k:Int)=(k:Int):=IntWalk.i64_in _ (by omega);have gI:ks.count k≤8:=by have:=List.count_le_length (a:=k) (l:=ks);omega
     have gJ:IntKind.i64.wrap ((ks.count k:Int)+1)=(ks.count k:Int)+1:=IntWalk.i64_in _ (by omega);have gK:=D4i (k:=k) (by omega);have gL:=D4i (k:=i) (by omega);have hf:∀(W:World) (raw:Result Next),Gu W raw (.int .u8 (n8 (UInt8.ofNat k))) (.int .u8 98)=.ok (.value (A8 (Gb (UInt8.ofNat k) 98))) W:=fun W raw=>Nh W raw (UInt8.ofNat k) 98;clear cY ha hc;obtain⟨D5,cZ,bC⟩:=I.mc.put hk;have eS:ks.length<maxLen:=by unfold maxLen;omega
     have cC:=C7n hk;go_wp2_with (at_mapUpdate;refine wpList_mapUpdate_own _ rfl _ _ _ 45 rfl 3 3 Kp Tryz.underlying45 RI b ks.length D5 rfl cZ eS _ _ (kj k) rfl rfl cC (.held (.int .i64 ((ks.count k:Int)+1))) [] rfl ?_;intro w6 aL aB);obtain⟨bO,cD,cE⟩:=I.map hk aB (bC w6 aL);have aC:(Instr.lookup 45 (.map (some b)) (.int .i64 (k:Int)) false).run Tryz.prog w6=.ok (.int .i64 ((ks.count k:Int)+1)) w6:=by have h1:=cD.look hk;rw[Eo,if_pos rfl]at h1;exact h1
     rw[aC];go_wp2_with fail;refine (A9n _ _ _ (A7e _ _) (Dm _) w6).mono ?_;rintro x w7 ⟨rfl,b7⟩;obtain⟨u,hu⟩:∃u,u=uAB k (ks.count k+1) ks.length:=⟨_,rfl⟩;rw[show mkU (Gb (UInt8.ofNat k) 98) ((ks.count k:Int)+1) (h1 (UInt8.ofNat i))=u by rw[hu,eM];rfl];have aY:u.Ok:=by rw[hu];exact C8p _ _ _
     obtain⟨us,aM⟩:∃us,us=abL uAB ks:=⟨_,rfl⟩;have cF:=aY.len;have aD:us.length=ks.length:=by rw[aM];exact A1j _ _
     have HL:=Lib.hid aD;have HE:=Lib.hid (show abL uAB (ks++[k])=us++[u] from by rw[aM,hu];exact Me _ _ _);rw[←aM]at bO;have bP:OwnU w7 w.heap.size u3 us:=⟨bO.1,Q7 bO.2 b7 (Nat.le_refl _)⟩;have eT:=cD.below b7;have dC:=C0 cE b7 cE.size;have h4:=I.four;have bQ:=I.hb;obtain⟨Au,cu,rfl,_,_⟩:=O7 bP.2;clear hu aM aD bO cD cE b7 cZ bC aL aB bB aC I bA;go_wp2_with (at_builtin;refine Ru 44 48 (Te (Ic 129)) 129 136 Tryz.underlying44 We cA (by decide) (by decide) rfl _ _ rfl rfl bP.2 (P9 u) cF (Tp u) _ rfl rfl rfl (by have:=HL.out;omega) dC.size ?_;intro A8 c8 w8 gM gN bD eU eV eW);have I8:AbI w w8 b (ks++[k]).length (ks++[k]) (.slice A8 (us.length+1) c8):=by
      refine ⟨⟨?_,?_⟩,?_,?_,bQ,dC.trans eU⟩
      ·rw[HE.out];intro x hx;rcases List.mem_append.1 hx with h | h
       ·exact bP.1 x h
       ·rw[List.mem_singleton.1 h];exact aY
      ·rw[HE.out];simpa using bD
      ·rw[List.length_append];exact eT.own bP.2 eV
      ·intro x hx;rcases List.mem_append.1 hx with h | h
       ·exact h4 x h
       ·rw[List.mem_singleton.1 h];exact hk
     go_roundw;case rel=>exact ⟨i+1,ks++[k],by omega,by go_num,by simp;omega,by omega,I8⟩
     case measure=>simp[intOf];omega
   ·have hd:decide ((i:Int)<(n:Int))=false:=decide_eq_false (by omega);have eN:decide (i<n)=false:=decide_eq_false (by omega);clear hlt;go_wp2_with fail;exact ⟨trivial,by kernel_rfl,ks,_,rfl,by omega,I⟩
 ·rintro f wr ⟨ks,lv,h3,dD,I⟩;dsimp only[A8t,List.foldl];rw[h3];clear h3 I0 HA HN;have h4:=I.four;obtain⟨t1,t2⟩:=B0c hA h4 dD;have he:=fun S hn hm=>D6q hA (S:=S) h4 dD hn hm;have bE:=I.lo;have dF:=D6i ks;obtain⟨us,aM⟩:∃us,us=abL uAB ks:=⟨_,rfl⟩;have aD:us.length=ks.length:=by rw[aM];exact A1j _ _
  rw[←aM]at t1 t2 he bE;obtain⟨q,hq⟩:∃q,q=us.length:=⟨_,rfl⟩;have eX:q≤8:=by omega
  have aY:=bE.1;have aG:=bE.2;have hU:US wr wr.heap.size lv us:=OwnU.us bE;rw[←hq]at aG;obtain⟨Al,cl,rfl,gO,gQ⟩:=O7 aG;have dG:(us.flatMap P9).length=q*129:=by rw[E7o aY,hq]
  have bF:∀x∈us.flatMap P9,x.oneCell'=true:=fun x hx=>by obtain⟨u,_,h⟩:=List.mem_flatMap.1 hx;exact Tp u x h
  have cG:=A1v;have dI:=Sm (World.ownsRow.alloc aG (.cells #[] 48));have dJ:=Lib.hid t1;have eY:=Lib.hid t2;have HE:=Lib.hid he;have eZ:=Lib.hid aD;have fB:=Lib.hid dF;have HQ:=Lib.hid hq;have dK:=Lib.hid aY;have HU:=Lib.hid hU;clear t1 t2 he dF aY hU bE aM hq aD;go_wp2_with (first | (at_builtin;refine A9z 44 (Te (Ic 129)) 136 Tryz.underlying44 We cA (by decide) (by decide) rfl _ _ rfl rfl (n:=0) (base:=wr.heap.size) (World.ownsRow_made wr #[] 0 (Nat.le_refl _) (Nat.zero_le _) (by simp)) Al q cl rfl (us.flatMap P9) dG w.heap.size _ dI bF (by omega) (by simp) ?_;intro A4 c4 w4 gR gT aA dL fC cH;have b4:Below wr.heap.size wr w4:=((Below.refl _ _).alloc (Nat.le_refl _) _).trans dL;have bG:=Q7 aG b4 (Nat.le_refl _);have bH:=Sm bG;have aA:w4.ownsRow wr.heap.size 48 129 (.slice A4 q c4) q (us.flatMap P9):=(by simpa using aA)) | (at_builtin;refine A9z 44 (Te (Ic 129)) 136 Tryz.underlying44 We cA (by decide) (by decide) rfl _ _ rfl rfl (n:=q) (base:=wr.heap.size) aA Al q cl rfl (us.flatMap P9) dG w.heap.size _ bH bF (by omega) (by have:=b4.size;omega) ?_;intro A5 c5 w5 gU gV aN dM fD cI) | fail);have b5:Below wr.heap.size wr w5:=b4.trans dM;have I5:=I.up b5;have aH:∀y∈us++us,y.Ok:=fun y hy=>by
   rcases List.mem_append.1 hy with h | h
   ·exact dK.out y h
   ·exact dK.out y h
  have dO:US w5 w5.heap.size (.slice A5 (q+q) c5) (us++us):=by have:OwnU w5 wr.heap.size (.slice A5 (q+q) c5) (us++us):=⟨aH,by rw[List.length_append,←HQ.out,List.flatMap_append];exact aN⟩;exact this.us
  have cJ:IsTree Tr.e []:=⟨Okt.nil,rfl⟩;have aQ:∀x,(lookE [] x).length≤1000:=fun x=>by simp[lookE]
  have bI:(us++us).length≤100:=by rw[List.length_append,←HQ.out];omega
  have aR:(Z0 (us++us) []).length≤12:=by rw[dJ.out,←HQ.out];omega
  clear aA dL fC cH bG bH aN dM fD cI b4 dI cG;refine (A3i _ 0 0 [] (us++us) _ w5 Tr.e (Bh.nil _) cJ dO bI aR (by simp) aQ).mono ?_;rintro x w8 ⟨sv,S,rfl,cK,bJ,bR,aS,b8⟩;have fE:us.length≤8:=by rw[←HQ.out];exact eX
  obtain⟨_,wx,_,⟨gW,_,dQ,_⟩,_⟩:=Sd _ 0 [] 0 us _ wr (Bh.nil _) HU.out (by omega) (by simp;omega) (by simp;omega) (fun x=>by simp[lookE];omega) [];obtain⟨t,ht⟩:=dQ.tree;obtain⟨cL,aP⟩:=Zf aH OkE.nil cJ (by rw[eY.out];exact ht) aS bJ bR (by simp) (fun x=>by simp[lookE]) (by omega);have aT:=Xo aH OkE.nil cJ aS bR (by simp) aQ aR;have aP:A2f (z8 32) t.root _=0:=aP;obtain⟨e1,e2,e3⟩:=HE.out S bR aS;obtain⟨bl,bQ⟩:∃bl,bl=Mk ((Tr.e).cut S 0).bytes (S.map fun x=>(x,lookE [] x,moreE (us++us) [] x)):=⟨_,rfl⟩;rw[←bQ]at cK cL aP aT;have bS:=t.root_length;have fF:=Lib.hid aP;have fG:=Lib.hid cL;have HT:=Lib.hid ht;have I8:=I5.up b8;have dS:=Lib.hid cK.up;clear bQ cL aP bJ bR ht aQ aH bI aR dO cK I5 dQ;go_wp2_with fail;refine (B6w sv bl w8 dS.out aT).mono ?_;rintro x w9 ⟨p,gX,e,rfl,dT,b9⟩;rw[fG.out]at dT;obtain⟨rfl,-,hgs⟩:=dT;obtain⟨A6,c6,rfl,-⟩:=hgs.form;rw[List.length_map]at hgs ⊢;obtain⟨sl,bT⟩:∃sl,sl=S.length:=⟨_,rfl⟩;rw[←bT]at hgs ⊢;have I9:=I8.up b9;have bK:=I9.mc.len 3;rw[fB.out,←e1,←bT]at bK;have cG:=A1v;have dU:=Lib.hid bT;have fH:=Lib.hid e1;have fI:=Lib.hid hgs;clear bT e1 hgs I8;go_wp2_with fail;refine (Sd _ 0 [] 0 us _ w9 (Bh.nil _) (((HU.out.below b5).more b5.size |> fun h=>(h.below b8).more b8.size |> fun h=>(h.below b9).more b9.size)) (by omega) (by simp;omega) (by simp;omega) (fun x=>by simp[lookE];omega)).mono ?_;rintro x gY ⟨dv,rfl,hD,bU⟩
  obtain⟨ap,mb,rfl⟩:=hD.form;rw[show ((0+1:Nat):Int)=1 from rfl]at hD ⊢;have aU:=C0 (Below.refl _ w9) bU (Nat.le_refl _);go_wp2_with fail;refine (B2n hD HT.out).mono ?_;rintro x fJ ⟨rfl,bX⟩;have aV:=C0 aU bX aU.size;go_wp2_with fail;refine (Ri (z8 32) t.root (by simp) bS sv bl fJ (((dS.out.up b9).up bU).up bX) aT).mono ?_;rintro x dW ⟨rfl,cM⟩;rw[fF.out];have aI:=C0 aV cM aV.size;have dX:=((I9.up bU).up bX).up cM;have dY:sl≤4:=by rw[dU.out,fH.out];exact Nat.le_trans (List.length_filter_le _ _) (by simp)
  clear bU bX cM aU aV hD I9 bK cG;go_wp2_with fail;obtain⟨ml,bK⟩:∃ml:List UInt8→Nat,ml=fun x=>(moreE (us++us) [] x).length:=⟨_,rfl⟩;have cN:=Lib.hid bK;have fK:=Lib.hid e2;have dZ:=Lib.hid e3;clear bK e2 e3;go_loopw [11,83] (fun nv jv W=>∃(s1 s2:List (List UInt8)),jv=.int .i64 (s1.length:Int)∧nv=.int .i64 (((s1.map ml).sum:Nat):Int)∧S=s1++s2∧Below dW.heap.size dW W) (fun _ jv _=>sl-(intOf jv).toNat)
  case atStart=>exact ⟨[],S,rfl,rfl,rfl,Below.refl _ _⟩
  case round=>
   obtain⟨s1,s2,rfl,rfl,aJ,b1⟩:=hrel;have aE:sl=S.length:=dU.out;have b2:=C0 aI b1 aI.size;cases s2 with
   | nil=>
    have fL:decide (s1.length<sl)=false:=decide_eq_false (by rw[aE,aJ];simp);rw[List.append_nil]at aJ;subst aJ;have bL:(S.map ml).sum=q:=by rw[cN.out,dZ.out,←eZ.out,HQ.out]
    rw[bL];clear aE bL;have BF:=C0 dX.below b1 dX.below.size;go_wp2_with fail;go_ret;exact ⟨by simp,BF⟩
   | cons x s3=>
    have fL:decide (s1.length<sl)=true:=decide_eq_true (by rw[aE,aJ];simp);have fM:s1.length<sl:=by rw[aE,aJ];simp
    have fN:x∈S:=by rw[aJ];simp
    obtain⟨gb,r,rfl,fO,bY,aO⟩:=fI.out.row (i:=s1.length) (q:=(x,lookE [] x,moreE (us++us) [] x)) (by rw[List.getElem?_map,aJ];simp);have cO:=(Xf (a:=⟨gb,s1.length*34,none⟩) b2 fO).trans aO;have fP:x.length=32:=bY.2.1;have aZ:r.id.length=32:=by rw[bY.1];exact fP
    have bS:=Gw.len aZ;have aW:E4 (wr.alloc (Obj.cells Uj.cells.toArray 64)) ⟨wr.heap.size,0,none⟩ 34=true:=(Bk.new wr _ _).can (by rw[Gw.len (by simp[Uj])];omega);obtain⟨we,bM⟩:∃y,y=C5 (wr.alloc (Obj.cells Uj.cells.toArray 64)) ⟨wr.heap.size,0,none⟩ r.cells:=⟨_,rfl⟩;have kg:Bk we wr.heap.size 64 r.cells:=by rw[bM];exact (Bk.new wr _ _).puts (by rw[bS,Gw.len (by simp[Uj])])
    have be:Below wr.heap.size wr we:=by rw[bM];exact C1 ((Below.refl _ _).alloc (Nat.le_refl _) _) (Nat.le_refl _) _
    have eA:=C0 b1 be b1.size;have fQ:r.cells[32]?=some (.slice r.s.a r.s.n r.s.c):=by rw[Gw.cells,List.getElem?_append_right (by simp[aZ])];simp[aZ,Sv.v]
    have eB:r.cells[33]?=some (.slice r.m.a r.m.n r.m.c):=by rw[Gw.cells,List.getElem?_append_right (by simp[aZ])];simp[aZ,Sv.v]
    have eC:=kg.at_ (i:=33) eB;rw[bM]at eC;have eD:=Lib.hid aJ;have cP:=Lib.hid bY;clear aJ bY aO be aE;go_wp2_with fail;rw[←bM];clear bM aW cO eC;obtain⟨mo,bZ⟩:∃y,y=moreE (us++us) [] x:=⟨_,rfl⟩;have cQ:∀W,Below w9.heap.size w9 W→UsK W (.slice r.m.a r.m.n r.m.c) mo:=fun W hW=>by rw[bZ];exact (cP.out.up hW).2.2.2
    have eE:r.m.n=mo.length:=by obtain⟨A,c,e⟩:=(cQ w9 (Below.refl _ _)).1.form;injection e
    have eF:r.s.n=0:=by have h1:=cP.out.2.2.1.2.2 rfl;injection h1
    have fR:mo.length≤8:=by have h1:(moreE (us++us) [] x).length≤(Z0 (us++us) []).length:=List.length_filter_le _ _;rw[dJ.out]at h1;rw[bZ];omega
    have cR:(s1.map ml).sum≤8:=by have h1:=dZ.out;rw[eD.out,List.map_append,List.sum_append]at h1;rw[cN.out];omega
    have eG:=Lib.hid cQ;have fS:=Lib.hid eE;have fT:=Lib.hid eF;have eH:=Lib.hid bZ;have eI:r.id=x:=cP.out.1;have fU:=Lib.hid eI;obtain⟨gx,cS⟩:∃y,y=wr.heap.size:=⟨_,rfl⟩;rw[←cS]at kg ⊢;have gZ:=Lib.hid cS;obtain⟨ma,eJ⟩:∃y,y=r.m.a:=⟨_,rfl⟩;rw[←eJ]at eG eB ⊢;obtain⟨N1,cT⟩:∃y,y=(s1.map ml).sum:=⟨_,rfl⟩;have fV:=Lib.hid cT;rw[←cT]at cR ⊢;clear cQ eE eF bZ cS eJ eI cT;go_loopw [11,90] (fun nv jv W=>∃(u1 u2:List UV),jv=.int .i64 (u1.length:Int)∧nv=.int .i64 ((N1+u1.length:Nat):Int)∧mo=u1++u2∧Below we.heap.size we W) (fun _ jv _=>r.m.n-(intOf jv).toNat)
    case atStart=>exact ⟨[],mo,rfl,rfl,rfl,Below.refl _ _⟩
    case round=>
     obtain⟨u1,u2,rfl,rfl,aK,b5⟩:=hrel;have aF:r.m.n=mo.length:=fS.out;have bW:=C0 eA b5 eA.size;have fW:=C0 aI bW aI.size;have cU:=kg.below b5 kg.lt;cases u2 with
     | nil=>
      have cV:decide (u1.length<r.m.n)=false:=decide_eq_false (by rw[aF,aK];simp);rw[List.append_nil]at aK;subst aK;have fX:=cU.at_ (i:=32) fQ;rw[fT.out]at fX;clear aF;go_wp2_with fail;go_roundw;case rel=>exact ⟨s1++[x],s3,by simp,by rw[fV.out,eH.out,cN.out];simp,by rw[eD.out];simp,bW⟩
      case measure=>exact Ue fM
     | cons u u3=>
      have cV:decide (u1.length<r.m.n)=true:=decide_eq_true (by rw[aF,aK];simp);have cW:u1.length<r.m.n:=by rw[aF,aK];simp
      obtain⟨gu,rfl,hY,fY,cX⟩:=(eG.out wr fW).row (i:=u1.length) (u:=u) (by rw[aK];simp);have cF:=cX.len;obtain⟨fZ,gC⟩:=fK.out x fN u1.length u (by rw[←eH.out,aK];simp);have aW:=(Bk.new wr 48 (P9 (Ic 129))).canvc (n:=129) (Cr _).len;obtain⟨wh,aX⟩:∃y,y=C5 (wr.alloc (Obj.cells (P9 (Ic 129)).toArray 48)) ⟨wr.heap.size,0,none⟩ (P9 u):=⟨_,rfl⟩;have ku:Bk wh wr.heap.size 48 (P9 u):=by rw[aX];exact (Bk.new wr 48 (P9 (Ic 129))).putvc (n:=129) (Cr _).len cF
      have bh:Below wr.heap.size wr wh:=by rw[aX];exact C1 ((Below.refl _ _).alloc (Nat.le_refl _) _) (Nat.le_refl _) _
      have gD:=C0 b5 bh b5.size;have fv:=UV.loadver ku cX;have eK:=UV.loadid ku cX;have fg:C6 wh ⟨gx,0,none⟩ 32=some (c8 r.id):=Gw.rowid (g:=gx) (o:=0) (by have:=(cU.below bh cU.lt).rows;rwa [bS]at this) aZ;rw[fZ,aX]at fv;rw[gC,aX]at eK;rw[fU.out,aX]at fg;have iA:u1.length<1000000:=by omega
      have eR:IntKind.i64.wrap ((u1.length:Int)+1)=(u1.length:Int)+1:=IntWalk.i64_in _ (by omega);have gF:=Lib.hid aK;clear aK aF;go_wp2_with fail;rw[←aX];have b6:Below we.heap.size we wh:=gD;clear aX aW fY fv eK fg;go_roundw;case rel=>exact ⟨u1++[u],u3,by simp,by simp;omega,by rw[gF.out];simp,b6⟩
      case measure=>exact Ue cW
end
end Go.Proofs.YtdfpoofbgjilgaaGreat
