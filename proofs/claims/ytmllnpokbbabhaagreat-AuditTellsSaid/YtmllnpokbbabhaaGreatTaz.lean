/- A part of the proof of AuditTells. -/
import Derived.Shelf.SlMaps.Clone
import Derived.Test.YtmllnpokbbabhaaGreatTay
set_option linter.unusedVariables false
set_option linter.unusedSimpArgs false
set_option maxRecDepth 100000
set_option maxHeartbeats 40000000
namespace Go.Proofs.YtmllnpokbbabhaaGreat
open Go Go.RowKit Sh
section
def RH (w:World) (g:Nat) (L:List (List UInt8)) (tl:List Value):Prop:=(∀k∈L,k.length=32)∧Bk w g 40 (c8 L.flatten++tl)
section
variable {w w' : World} {g : Nat} {L : List (List UInt8)} {tl : List Value}
theorem RH.lt (h:RH w g L tl):g<w.heap.size:=h.2.lt
theorem RH.below {B:Nat} (h:RH w g L tl) (hb:Below B w w') (hg:g<B):RH w' g L tl:=⟨h.1,h.2.below hb hg⟩
theorem RH.row (h:RH w g L tl) {i:Nat} {k:List UInt8} (hk:L[i]?=some k):C4 w ⟨g,i*32,none⟩ 32=some (c8 k):=by
 have hi:i<L.length:=(List.getElem?_eq_some_iff.1 hk).1;have hl:=X0 h.1;rw[h.2.row (by simp[hl];omega)];congr 1;have aA:=B3c h.1 hk;rw[List.drop_append_of_le_length (by simp[hl];omega),List.take_append_of_le_length (by simp[hl];omega)];rw[←aA];simp[c8,List.map_drop,List.map_take]
theorem RH.can (h:RH w g L tl) {i:Nat} (hi:i<L.length):F9 w ⟨g,i*32,none⟩ 32=true:=h.2.can (by simp[X0 h.1];omega)
theorem RH.can_to (h:RH w g L tl) {i n:Nat} (hi:i+n≤L.length):F9 w ⟨g,i*32,none⟩ (n*32)=true:=h.2.can (by simp[X0 h.1];omega)
theorem C2v:∀ {L:List (List UInt8)} (_:∀k∈L,k.length=32) {i:Nat} (x:List UInt8),x.length=32→i<L.length→L.flatten.take (i*32)++x++L.flatten.drop (i*32+32)=(L.set i x).flatten:=by
 intro L;induction L with
 | nil=>intro _ i x _ hi;simp at hi
 | cons q L ih=>
  intro h i x hx hi;have hq:=h q (by simp);cases i with
  | zero=>simp[←hq,List.drop_left]
  | succ i=>
   have:=ih (fun k hk=>h k (by simp[hk])) (i:=i) x hx (by simpa using hi);simp only[List.flatten_cons,List.set_cons_succ];rw[←this];have e1:(i+1)*32=q.length+i*32:=by omega
   have e2:(i+1)*32+32=q.length+(i*32+32):=by omega
   rw[e2,e1,List.take_append,List.drop_append];simp[List.take_of_length_le,List.drop_eq_nil_of_le]
theorem RH.set (h:RH w g L tl) {i:Nat} {x:List UInt8} (hx:x.length=32) (hi:i<L.length):RH (C2 w ⟨g,i*32,none⟩ (c8 x)) g (L.set i x) tl:=by
 refine ⟨fun k hk=>?_,?_⟩
 ·rcases List.mem_or_eq_of_mem_set hk with h1 | rfl
  ·exact h.1 k h1
  ·exact hx
 ·have hl:=X0 h.1;have:=h.2.put (o:=i*32) (vs:=c8 x) (by simp[hl,hx];omega);have e:(c8 L.flatten++tl).take (i*32)++c8 x++(c8 L.flatten++tl).drop (i*32+(c8 x).length)=c8 (L.set i x).flatten++tl:=by rw[←C2v h.1 x hx hi,C1,hx,List.take_append_of_le_length (by simp[hl];omega),List.drop_append_of_le_length (by simp[hl];omega)];simp[c8,List.map_drop,List.map_take]
  rw[e]at this;exact this
theorem S4 (w:World) (g o:Nat) (vs:List Value):w.grownBy (C2 w ⟨g,o,none⟩ vs) (some g):=by
 have h:=C0 (a:=⟨g,o,none⟩) (Below.refl 0 w) (Nat.zero_le _) vs;exact ⟨h.os,h.tape,h.output,h.size,fun k hk hne=>X2 _ _ _ _ _ (fun e=>hne (by rw[e]))⟩
theorem c8z (n:Nat):c8 (z8 n)=List.replicate n (v8 0):=by simp[c8,z8]
theorem RH.clear (h:RH w g L tl) {i n:Nat} (hi:i+n=L.length):∃L',L'.take i=L.take i∧L'.length=L.length∧RH (C2 w ⟨g,i*32,none⟩ (c8 (z8 (n*32)))) g L' tl:=by
 induction n generalizing w L i with
 | zero=>exact ⟨L,rfl,rfl,by simpa [z8,c8,C2,World.setCells] using h⟩
 | succ n ih=>
  have h1:=h.set (i:=i) (x:=z8 32) (by simp) (by omega);obtain⟨L',e1,e2,h2⟩:=ih h1 (i:=i+1) (by simp;omega);refine ⟨L',?_,by simpa using e2,?_⟩
  ·have:=congrArg (List.take i) e1;rw[List.take_take,List.take_take]at this;simpa [List.take_set_of_le] using this
  ·have e:C2 w ⟨g,i*32,none⟩ (c8 (z8 ((n+1)*32)))=C2 (C2 w ⟨g,i*32,none⟩ (c8 (z8 32))) ⟨g,(i+1)*32,none⟩ (c8 (z8 (n*32))):=by
    have hz:c8 (z8 ((n+1)*32))=c8 (z8 32)++c8 (z8 (n*32)):=by rw[c8z,c8z,c8z,show (n+1)*32=32+n*32 by omega];exact (List.replicate_append_replicate).symm
    have hs:∀(a b:List Value) (o:Nat) (w:World),w.setCells g o (a++b)=(w.setCells g o a).setCells g (o+a.length) b:=by
     intro a;induction a with
     | nil=>intro b o w;rfl
     | cons v a ih=>intro b o w;simp only[List.cons_append,World.setCells,ih,List.length_cons];rw[show o+1+a.length=o+(a.length+1) by omega]
    unfold C2;rw[hz,hs];simp[Nat.add_mul]
   rw[e];exact h2
end
theorem A4o {w:World} {g o n c:Nat} (ty:TypeId) (h:F9 w ⟨g,o,none⟩ (n*32)=true):(Builtin.clear_ #[49] ty #[.slice (some ⟨g,o,none⟩) n c]).run Tryz.prog w=.ok (.tuple #[]) (C2 w ⟨g,o,none⟩ (c8 (z8 (n*32)))):=by
 have hc:=Kw.1 h;obtain⟨z,aA⟩:=D9 (A8 (z8 32));have aB:z.cells=(List.replicate 32 (v8 0)).toArray:=by rw[aA];exact congrArg List.toArray (c8z 32)
 have hz:(Builtin.zeroCells z.cells n).toList=c8 (z8 (n*32)):=by
  rw[c8z];apply List.ext_getElem
  ·simp[Builtin.zeroCells,aB]
  ·intro i h1 h2;have aD:i % 32<32:=Nat.mod_lt _ (by omega);simp[Builtin.zeroCells,aB,getElem!_pos,aD,-List.reduceReplicate]
 have aC:=run_storeCells_cells (P:=Tryz.prog) g o (c8 (z8 (n*32))) 0 w (fun j hj=>by simpa using (hc j (by simpa using hj)).1) (fun j hj=>by simpa using (hc j (by simpa using hj)).2) (by intro u hu;obtain⟨x,_,rfl⟩:=List.mem_map.1 hu;rfl);simp only[Nat.add_zero]at aC;cases n with
 | zero=>simp[Builtin.clear_,run_underlying Tryz.underlying49,z8,c8,C2,World.setCells]
 | succ n=>
  have aE:∀w,(zeroValue 40).run Tryz.prog w=.ok z w:=fun w=>by rw[aA];kernel_rfl
  simp[Builtin.clear_,run_underlying Tryz.underlying49,aE,hz,aC,C2]
section
variable (c : Nat) (la : Value) (p : List UInt8 → Bool) (eg : ∀ args w, (callFunc c args).run Tryz.prog w = .ok (.enter c args) w) (base : Nat) (w0 : World) (HP : ∀ W x, x.length = 32 → Below base w0 W → Calls Tryz.prog c #[A8 x, la] W fun e w' => e = .returned (.bool (p x)) ∧ Below W.heap.size W w')
include eg HP
theorem D5l (g cap:Nat) (ks:List (List UInt8)) (tl:List Value) (hn:ks.length≤1099511627776) (w:World) (hbs:base≤w.heap.size) (h0:Below base w0 w) (hR:RH w g ks tl) :
 Calls Tryz.prog 173 #[.slice (some ⟨g,0,none⟩) ks.length cap,.func (.func c) #[] #[la]] w fun e w'=>∃r:Int,e=.returned (.int .i64 r)∧Below w.heap.size w w'∧
  ((r=-1∧∀k∈ks,p k=false)∨∃(i:Nat) (k:List UInt8),r=(i:Int)∧ks[i]?=some k∧p k=true∧∀k∈ks.take i,p k=false):=by
 have aB:=Lib.hid HP;clear HP;go_enter Tryz.func173,Tryz.ntmps173;go_wp2_with fail;go_loopw [8] (fun t wr=>∃i:Nat,i≤ks.length∧t=.int .i64 (i:Int)∧(∀k∈ks.take i,p k=false)∧Below w.heap.size w wr) (fun t _=>ks.length-(intOf t).toNat)
 case atStart=>exact ⟨0,by omega,rfl,by simp,Below.refl _ _⟩
 case round=>
  obtain⟨i,hi,rfl,he,hb⟩:=hrel;by_cases hlt:i<ks.length
  ·obtain⟨k,hk⟩:∃k,ks[i]?=some k:=⟨_,List.getElem?_eq_getElem hlt⟩;have aC:=(hR.below hb hR.lt).row hk;have aD:=hR.1 k (List.mem_of_getElem? hk);have aA:=aB.out wr k aD (h0.trans (hb.mono hbs));have HK:=Lib.hid hk;have HE:=Lib.hid he;clear hk he;cases hq:p k with
   | true=>
    rw[hq]at aA;go_wp2_with (go_at_fn c;refine aA.mono ?_;rintro e w' ⟨rfl,hb'⟩);go_ret;exact ⟨_,rfl,hb.trans (hb'.mono hb.size),.inr ⟨i,k,rfl,HK.out,hq,HE.out⟩⟩
   | false=>
    rw[hq]at aA;go_wp2_with (go_at_fn c;refine aA.mono ?_;rintro e w' ⟨rfl,hb'⟩);go_roundw;case rel=>
     refine ⟨i+1,by omega,by go_num,fun x hx=>?_,hb.trans (hb'.mono hb.size)⟩;rw[Kt HK.out]at hx;rcases List.mem_append.1 hx with hx | hx
     ·exact HE.out x hx
     ·simp at hx;subst hx;exact hq
    case measure=>simp[intOf];omega
  ·obtain rfl:i=ks.length:=by omega
   go_wp2_with fail;go_ret;exact ⟨_,rfl,hb,.inl ⟨rfl,by simpa using he⟩⟩
theorem C1s (g cap:Nat) (ks:List (List UInt8)) (tl:List Value) (hn:ks.length≤1099511627776) (hc1:ks.length≤cap) (hc2:cap≤9223372036854775807) (w:World) (hbs:base≤g) (h0:Below base w0 w) (hR:RH w g ks tl) :
 Calls Tryz.prog 125 #[.slice (some ⟨g,0,none⟩) ks.length cap,.func (.func c) #[] #[la]] w fun e w'=>∃(m:Nat) (L:List (List UInt8)),e=.returned (.slice (some ⟨g,0,none⟩) m cap)∧m=(ks.filter fun k=>!p k).length∧w.grownBy w' (some g)∧RH w' g L tl∧L.length=ks.length∧L.take m=ks.filter fun k=>!p k:=by
 have aP:=hR.lt;have aG:=D5l c la p eg base w0 HP g cap ks tl hn w (by omega) h0 hR;have aX:=Lib.hid HP;have HI:=Lib.hid aG;clear HP aG;go_enter Tryz.func125,Tryz.ntmps125;go_wp2_with fail;refine HI.out.mono ?_;rintro e w1 ⟨r,rfl,aC,hr⟩;clear HI;rcases hr with ⟨rfl,hall⟩ | ⟨i0,k0,rfl,hk0,hp0,hpre⟩
 ·have e:(ks.filter fun k=>!p k)=ks:=List.filter_eq_self.2 fun k hk=>by simp[hall k hk]
  have aJ:w.grownBy w1 (some g):=⟨aC.os,aC.tape,aC.output,aC.size,fun k hk _=>aC.block k hk⟩;go_wp2_with fail;go_ret;exact ⟨ks.length,ks,rfl,by rw[e],aJ,hR.below aC aP,rfl,by rw[e];simp⟩
 ·have aY:i0<ks.length:=(List.getElem?_eq_some_iff.1 hk0).1;have aL:((i0:Int) == -1)=false:=beq_eq_false_iff_ne.2 (by omega);have aQ:Hid (ks.take i0=(ks.take (i0+1)).filter fun k=>!p k):=Lib.hid (by
   rw[Kt hk0,List.filter_append];have:(ks.take i0).filter (fun k=>!p k)=ks.take i0:=List.filter_eq_self.2 fun k hk=>by simp[hpre k hk]
   rw[this];simp[hp0])
  have aR:=hR.below aC aP;have aH:w.grownBy w1 (some g):=⟨aC.os,aC.tape,aC.output,aC.size,fun k hk _=>aC.block k hk⟩;clear hk0 hp0 hpre;go_wp2_with fail;go_loopw [5,6] (fun t5 t6 wr=>∃(i j:Nat) (L:List (List UInt8)),t5=.int .i64 (i:Int)∧t6=.int .i64 (j:Int)∧i<j∧j≤ks.length∧Hid (L.take i=(ks.take j).filter fun k=>!p k)∧Hid (L.drop j=ks.drop j)∧L.length=ks.length∧RH wr g L tl∧w.grownBy wr (some g)) (fun _ t6 _=>ks.length-(intOf t6).toNat)
  case atStart=>exact ⟨i0,i0+1,ks,rfl,by go_num,by omega,by omega,aQ,Lib.hid rfl,rfl,aR,aH⟩
  case round=>
   clear aQ aR aH aC aY aL;obtain⟨i,j,L,rfl,rfl,bE,bF,hT,hD,aS,aE,aM⟩:=hrel;by_cases hlt:j<ks.length
   ·obtain⟨x,hx⟩:∃x,L[j]?=some x:=⟨_,List.getElem?_eq_getElem (by omega)⟩;have aT:Hid (ks[j]?=some x):=Lib.hid (by have:=congrArg (·[0]?) hD.out;simpa [List.getElem?_drop,hx] using this.symm);have aN:=aE.row hx;have aI:=aE.1 x (List.mem_of_getElem? hx);have aD:=aE.can (i:=i) (by omega);have aZ:=aE.lt;obtain⟨wb,aF⟩:=D9 (C2 (wr.alloc (Obj.cells (c8 (z8 32)).toArray 40)) ⟨wr.heap.size,0,none⟩ (c8 x));have KX:Bk wb wr.heap.size 40 (c8 x):=by rw[aF];exact Bk.fresh wr _ (by simp[aI])
    have BX:Below wr.heap.size wr wb:=by rw[aF];exact C0 (U7 _ _) (Nat.le_refl _) _
    have bA:Below base w0 wr:=h0.grown aM (by omega) (fun k hk=>by injection hk with hk;omega);have aA:=aX.out wb x aI (bA.trans (BX.mono (by omega)));have HX:=Lib.hid hx;clear hx;have aK:=aE.below BX aZ;have aU:C4 (C2 (wr.alloc (Obj.cells (c8 (z8 32)).toArray 40)) ⟨wr.heap.size,0,none⟩ (c8 x)) ⟨wr.heap.size,0,none⟩ 32=some (c8 x):=by rw[←aF];have:=KX.rows;rwa [C1,aI]at this
    have aJ:w.grownBy wb (some g):=aM.trans ⟨BX.os,BX.tape,BX.output,BX.size,fun k hk _=>BX.block k hk⟩;have aV:Hid (L.drop (j+1)=ks.drop (j+1)):=Lib.hid (by have:=congrArg (List.drop 1) hD.out;simpa [List.drop_drop,Nat.add_comm] using this);cases hq:p x with
    | true=>
     rw[hq]at aA;go_wp2_with fail;rw[←aF];clear aF aU;refine aA.mono ?_;rintro e w' ⟨rfl,aB⟩;go_wp2_with fail;go_roundw;case rel=>exact ⟨i,j+1,L,rfl,by go_num,by omega,by omega,Lib.hid (by rw[Kt aT.out,List.filter_append,hT.out];simp[hq]),aV,aS,aK.below aB aK.lt,aJ.trans ⟨aB.os,aB.tape,aB.output,aB.size,fun k hk _=>aB.block k hk⟩⟩
     case measure=>simp[intOf];omega
    | false=>
     rw[hq]at aA;go_wp2_with fail;rw[←aF];clear aF aU;refine aA.mono ?_;rintro e w' ⟨rfl,aB⟩;have aO:=aK.below aB aK.lt;have bG:C4 w' ⟨wr.heap.size,0,none⟩ 32=some (c8 x):=by have:=(KX.bl aB).rows;rwa [C1,aI]at this
     have bH:=aO.can (i:=i) (by omega);have bB:w.grownBy w' (some g):=aJ.trans ⟨aB.os,aB.tape,aB.output,aB.size,fun k hk _=>aB.block k hk⟩;have bC:=aO.lt;clear aD aN;go_wp2_with fail;go_roundw;case rel=>
      refine ⟨i+1,j+1,L.set i x,by go_num,by go_num,by omega,by omega,Lib.hid ?_,Lib.hid ?_,by simp[aS],aO.set aI (by omega),bB.trans (S4 _ _ _ _)⟩
      ·rw[Kt aT.out,List.filter_append,←hT.out,Kt (q:=x) (by simp[show i<L.length by omega]),List.take_set_of_le (Nat.le_refl _)];simp[hq]
      ·rw[List.drop_set_of_lt (by omega)];exact aV.out
     case measure=>simp[intOf];omega
   ·obtain rfl:j=ks.length:=by omega
    have aD:=aE.can_to (i:=i) (n:=ks.length-i) (by omega);have bI:∀ty,(Builtin.clear_ #[49] ty #[.slice (some ⟨g,i*32,none⟩) (ks.length-i) (cap-i)]).run Tryz.prog wr=_:=fun ty=>A4o ty aD;obtain⟨L',e1,e2,bD⟩:=aE.clear (i:=i) (n:=ks.length-i) (by omega);have aW:=Lib.hid (show L'.take i=ks.filter fun k=>!p k by rw[e1,hT.out,List.take_length]);clear aD;go_wp2_with fail;go_ret;refine ⟨i,L',rfl,?_,aM.trans (S4 _ _ _ _),bD,by omega,aW.out⟩;rw[←aW.out];simp;omega
end
theorem RH.of_own {w:World} {base:Nat} {A:Option Addr} {n c:Nat} {ks:List (List UInt8)} (h:w.ownsRow base 40 32 (.slice A n c) n (c8 ks.flatten)) (hk:∀k∈ks,k.length=32) (hn:n=ks.length) (hp:0<n):∃g tl,A=some ⟨g,0,none⟩∧base≤g∧RH w g ks tl∧n≤c∧c≤9223372036854775807:=by
 rcases h.2 with ⟨hv,h0⟩ | ⟨g,cap,cur,hv,hbg,hh,hr,hm,hsz,ht⟩
 ·omega
 ·injection hv with h1 h2 h3;subst h1 h3;refine ⟨g,cur.toList.drop (n*32),rfl,hbg,⟨hk,?_⟩,hr,by unfold maxLen at hm;exact hm⟩;have e:c8 ks.flatten++cur.toList.drop (n*32)=cur.toList:=by rw[←ht,List.take_append_drop]
  rw[e];exact hh
theorem A5p (v:Value) (ks:List (List UInt8)) (w:World) (hv:Hs w 0 w.heap.size v ks) (hne:0<ks.length) (hn:ks.length≤1099511627) :
 Calls Tryz.prog 60 #[v] w fun e w'=>∃(g cap:Nat) (tl:List Value),e=.returned (.slice (some ⟨g,0,none⟩) ks.length cap)∧w.heap.size≤g∧RH w' g ks tl∧ks.length≤cap∧cap≤9223372036854775807∧Below w.heap.size w w':=by
 obtain⟨A,c,aD,aN,aO⟩:=hv.form;obtain⟨aA,A',c',aE,_,_,aF⟩:=hv;have hA:A=A':=by rw[aD]at aE;injection aE
 subst hA;subst aD;have aP:A.isNone=false:=by
  rcases aF with h | ⟨g,o,h,_⟩
  ·have:=congrArg List.length h;rw[C1,X0 aA]at this;simp at this;omega
  ·rw[h];rfl
 have hl:=X0 aA;have aB:Rd (w.alloc (.cells #[] 40)) 0 w.heap.size A (c8 ks.flatten):=aF.below (U7 _ _);have aQ:∀(w:World) (a:Option Addr) (n c n' c':Nat),(binOp .eql 49 (.slice a n c) (.slice none n' c')).run Tryz.prog w=.ok (.bool a.isNone) w:=fun w a n c n' c'=>Lib.run_eql_slice_nil w _ _ a n c n' c' Tryz.underlying49;go_enter Tryz.func60,Tryz.ntmps60;go_wp2_with (at_builtin;refine B7p 49 (A8 (z8 32)) 32 Tryz.underlying49 Yo (by simp[A8,Value.cells]) (by decide) (by decide) rfl _ _ rfl rfl (n:=0) (base:=w.heap.size) (World.ownsRow_made w #[] 0 (Nat.le_refl _) (Nat.zero_le _) (by simp)) A ks.length c rfl (c8 ks.flatten) (by simp[hl]) 0 _ aB (by intro u hu;obtain⟨x,_,rfl⟩:=List.mem_map.1 hu;rfl) (by omega) (by simp) ?_;intro A' c' w' aG aH aC aI aR aJ);go_ret;obtain⟨g,tl,rfl,aK,hR,aL,aM⟩:=RH.of_own (by simpa using aC) aA rfl (by omega);exact ⟨g,c',tl,by simp,aK,hR,aL,aM,(U7 _ _).trans aI⟩
end
theorem D5j {W:World} {base:Nat} {T:TypeId} {v:Value} {n:Nat} {ks:List (List UInt8)} (h:W.ownsRow base T 32 v n (c8 ks.flatten)) (hn:ks.length=n) (hk:∀k∈ks,k.length=32):Hs W base W.heap.size v ks:=by
 obtain⟨A,c,rfl,h1,h2⟩:=F8 h;subst hn;exact ⟨hk,A,c,rfl,h1,by unfold maxLen;exact h2,B9c h⟩
theorem Hs.less {w:World} {lo lo' B:Nat} {v:Value} {l:List (List UInt8)} (h:Hs w lo B v l) (hB:lo'≤lo):Hs w lo' B v l:=let ⟨h0,A,c,h1,h2,h3,h4⟩:=h;⟨h0,A,c,h1,h2,h3,h4.less hB⟩
def OwnK (w:World) (base:Nat) (v:Value) (ks:List (List UInt8)):Prop:=(∀k∈ks,k.length=32)∧w.ownsRow base 40 32 v ks.length (c8 ks.flatten)
theorem OwnK.nil (w:World) (base:Nat):OwnK w base (.slice none 0 0) []:=⟨by simp,World.ownsRow_nil w base _ _⟩
theorem OwnK.below {w w':World} {base B:Nat} {v:Value} {ks:List (List UInt8)} (h:OwnK w base v ks) (hb:Below B w w') (hB:w.heap.size≤B):OwnK w' base v ks:=⟨h.1,J7 h.2 hb hB⟩
theorem OwnK.hs {w:World} {base:Nat} {v:Value} {ks:List (List UInt8)} (h:OwnK w base v ks):Hs w base w.heap.size v ks:=D5j h.2 rfl h.1
theorem OwnK.form {w:World} {base:Nat} {v:Value} {ks:List (List UInt8)} (h:OwnK w base v ks):∃A c,v=.slice A ks.length c∧ks.length≤c∧c≤9223372036854775807:=F8 h.2
section
theorem B9j (w:World):Calls Tryz.prog 60 #[.slice none 0 0] w fun e w'=>e=.returned (.slice none 0 0)∧w=w':=by
 have aA:∀(w:World) (a:Option Addr) (n c n' c':Nat),(binOp .eql 49 (.slice a n c) (.slice none n' c')).run Tryz.prog w=.ok (.bool a.isNone) w:=fun w a n c n' c'=>Lib.run_eql_slice_nil w _ _ a n c n' c' Tryz.underlying49;go_enter Tryz.func60,Tryz.ntmps60;go_wp2;go_ret;exact ⟨rfl,rfl⟩
theorem B3v (v:Value) (ks:List (List UInt8)) (w:World) (hv:Hs w 0 w.heap.size v ks) (hne:0<ks.length) (hn:ks.length≤1099511627) :
 Calls Tryz.prog 60 #[v] w fun e w'=>∃u,e=.returned u∧OwnK w' w.heap.size u ks∧Below w.heap.size w w':=by
 obtain⟨A,c,aD,aK,aL⟩:=hv.form;obtain⟨aA,A',c',aE,_,_,aF⟩:=hv;have hA:A=A':=by rw[aD]at aE;injection aE
 subst hA;subst aD;have aM:A.isNone=false:=by
  rcases aF with h | ⟨g,o,h,_⟩
  ·have:=congrArg List.length h;rw[C1,X0 aA]at this;simp at this;omega
  ·rw[h];rfl
 have hl:=X0 aA;have aB:Rd (w.alloc (.cells #[] 40)) 0 w.heap.size A (c8 ks.flatten):=aF.below (U7 _ _);have aN:∀(w:World) (a:Option Addr) (n c n' c':Nat),(binOp .eql 49 (.slice a n c) (.slice none n' c')).run Tryz.prog w=.ok (.bool a.isNone) w:=fun w a n c n' c'=>Lib.run_eql_slice_nil w _ _ a n c n' c' Tryz.underlying49;go_enter Tryz.func60,Tryz.ntmps60;go_wp2_with (at_builtin;refine B7p 49 (A8 (z8 32)) 32 Tryz.underlying49 Yo (by simp[A8,Value.cells]) (by decide) (by decide) rfl _ _ rfl rfl (n:=0) (base:=w.heap.size) (World.ownsRow_made w #[] 0 (Nat.le_refl _) (Nat.zero_le _) (by simp)) A ks.length c rfl (c8 ks.flatten) (by simp[hl]) 0 _ aB (by intro u hu;obtain⟨x,_,rfl⟩:=List.mem_map.1 hu;rfl) (by omega) (by simp) ?_;intro A' c' w' aG aH aC aI aO aJ);go_ret;exact ⟨_,rfl,⟨aA,by simpa using aC⟩,(U7 _ _).trans aI⟩
def Nx (w:World) (row:Option Nat) (T:TypeId):Prop:=∀g,row=some g→∃cur fz,w.heap[g]?=some (.cells cur T fz)
section
variable {w w' : World} {row : Option Nat} {T : TypeId}
theorem Nx.up (h:Nx w row T) (hb:Below w.heap.size w w'):Nx w' row T:=fun g hg=>by
 obtain⟨c,f,h1⟩:=h g hg;exact ⟨c,f,(hb.block g (Array.getElem?_eq_some_iff.1 h1).1).trans h1⟩
theorem Nx.setCell (h:Nx w row T) (p:Addr) (u:Value):Nx (w.setCell p u) row T:=fun g hg=>by
 obtain⟨c,f,h1⟩:=h g hg;by_cases e:g=p.block
 ·subst e;simp[World.setCell,Array.getElem?_modify,h1]
 ·exact ⟨c,f,(Below.heap_setCell w p u g e).trans h1⟩
theorem Nx.putAt (h:Nx w row T) (g:Nat):∀(vs:List Value) (o:Nat),Nx (C2 w ⟨g,o,none⟩ vs) row T:=by
 intro vs;induction vs generalizing w with
 | nil=>intro o;exact h
 | cons v vs ih=>intro o;exact ih (h.setCell ⟨g,o,none⟩ v) (o+1)
theorem Nx.own (h:Nx w row T) {r:Option Nat} (hg:w.grownBy w' r) (hr:∀k,r=some k→∃o:Obj,w.heap[k]?=some o∧o.isCells=false):Nx w' row T:=fun g e=>by
 obtain⟨c,f,h1⟩:=h g e;refine ⟨c,f,(hg.block g (Array.getElem?_eq_some_iff.1 h1).1 fun e2=>?_).trans h1⟩;obtain⟨o,h2,h3⟩:=hr g e2.symm;rw[h1]at h2;injection h2 with h2;subst h2;cases h3
theorem Be {base sz n:Nat} {v:Value} {xs:List Value} (h:w.ownsRow base T sz v n xs):Nx w v.ownBlock T:=by
 intro g hg;rcases h.2 with ⟨rfl,_⟩ | ⟨g',cap,cur,rfl,_,hh,_⟩
 ·cases hg
 ·injection hg with hg;subst hg;exact ⟨_,_,hh⟩
end
def KS (w:World) (v:Value) (ks:List (List UInt8)):Prop:=(v=.slice none 0 0∧ks=[])∨(Hs w 0 w.heap.size v ks∧0<ks.length∧Nx w v.ownBlock 40)
theorem KS.up {w w':World} {v:Value} {ks:List (List UInt8)} (h:KS w v ks) (hb:Below w.heap.size w w'):KS w' v ks:=by
 rcases h with h | ⟨h,hn,ht⟩
 ·exact .inl h
 ·exact .inr ⟨(h.below hb).more hb.size,hn,ht.up hb⟩
theorem A0x (v:Value) (ks:List (List UInt8)) (w:World) (hv:KS w v ks) (hn:ks.length≤1099511627) :
 Calls Tryz.prog 60 #[v] w fun e w'=>∃u,e=.returned u∧(OwnK w' w.heap.size u ks∧(ks=[]→u=.slice none 0 0))∧Below w.heap.size w w':=by
 rcases hv with ⟨rfl,rfl⟩ | ⟨h,hne,_⟩
 ·refine (B9j w).mono ?_;rintro e w' ⟨rfl,rfl⟩;exact ⟨_,rfl,⟨OwnK.nil _ _,fun _=>rfl⟩,Below.refl _ _⟩
 ·refine (B3v v ks w h hne hn).mono ?_;rintro e w' ⟨u,rfl,h1,h2⟩;exact ⟨u,rfl,⟨h1,fun e=>by rw[e]at hne;cases hne⟩,h2⟩
theorem B6o (v:Value) (ks:List (List UInt8)) (w:World) (hv:KS w v ks) (hn:ks.length≤1099511627) :
 Calls Tryz.prog 60 #[v] w fun e w'=>∃u,e=.returned u∧OwnK w' w.heap.size u ks∧Below w.heap.size w w':=
 (A0x v ks w hv hn).mono fun _ _ ⟨u,e,o,b⟩=>⟨u,e,o.1,b⟩
end
theorem OwnK.less {w:World} {base base':Nat} {v:Value} {ks:List (List UInt8)} (h:OwnK w base v ks) (hb:base'≤base):OwnK w base' v ks:=by
 refine ⟨h.1,h.2.1,?_⟩;rcases h.2.2 with h2 | ⟨g,cap,cur,hv,hg,r⟩
 ·exact .inl h2
 ·exact .inr ⟨g,cap,cur,hv,by omega,r⟩
def zk (i:Nat) (d:Tmp) (base:Nat) (ks:List (List UInt8)):Soup:=⟨i,d,fun v w=>OwnK w base v ks,false⟩
def zl (i:Nat) (d:Tmp) (T:TypeId) (cs:List Value):Soup:=⟨i,d,fun v w=>∃p,v=.slice (some ⟨p,0,none⟩) 1 1∧Bk w p T cs,false⟩
theorem zk_mono (i:Nat) (d:Tmp) (base:Nat) (ks:List (List UInt8)):(zk i d base ks).mono:=fun _ _ _ h hb=>h.below hb (Nat.le_refl _)
theorem zl_mono (i:Nat) (d:Tmp) (T:TypeId) (cs:List Value):(zl i d T cs).mono:=fun _ _ _ ⟨p,e,h⟩ hb=>⟨p,e,h.bl hb⟩
noncomputable def Df (ks:List (List UInt8)) (u:UV):Bool:=signedB u&&decide (u.ver=(ks.length:Int)+1)
noncomputable def Dd (ks:List (List UInt8)) (u:UV):List (List UInt8):=if Df ks u then ks++[u.key] else []
noncomputable def Bp (ks:List (List UInt8)) (u:UV):Int:=if signedB u then (if u.ver=(ks.length:Int)+1 then 0 else 111) else 110
theorem B3s {ks:List (List UInt8)} {u:UV} (h:signedB u=false):Dd ks u=[]∧Bp ks u=110:=by
 unfold Dd Bp Df;rw[h,Bool.false_and];exact ⟨if_neg (by decide),if_neg (by decide)⟩
theorem B5z {ks:List (List UInt8)} {u:UV} (h:signedB u=true) (h2:¬ u.ver=(ks.length:Int)+1):Dd ks u=[]∧Bp ks u=111:=by
 unfold Dd Bp Df;rw[h,Bool.true_and,decide_eq_false h2,if_pos rfl,if_neg h2];exact ⟨if_neg (by decide),rfl⟩
theorem B6a {ks:List (List UInt8)} {u:UV} (h:signedB u=true) (h2:u.ver=(ks.length:Int)+1):Dd ks u=ks++[u.key]∧Bp ks u=0:=by
 unfold Dd Bp Df;rw[h,Bool.true_and,decide_eq_true h2,if_pos rfl,if_pos h2];exact ⟨by first | rfl | exact if_pos rfl,rfl⟩
theorem KS.form {w:World} {v:Value} {ks:List (List UInt8)} (h:KS w v ks):∃A c,v=.slice A ks.length c:=by
 rcases h with ⟨rfl,rfl⟩ | ⟨h,_⟩
 ·exact ⟨none,0,rfl⟩
 ·obtain⟨A,c,e,_⟩:=h.form;exact ⟨A,c,e⟩
theorem Wk (v:Value) (ks:List (List UInt8)) (u:UV) (hu:u.Ok) (w:World) (hv:KS w v ks) (hkn:ks.length≤1000000):Calls Tryz.prog 26 #[v,Rk u] w fun e w'=>∃r,e=.returned (.tuple #[r,.int .i64 (Bp ks u)])∧OwnK w' w.heap.size r (Dd ks u)∧Below w.heap.size w w':=by
 obtain⟨A,c,rfl⟩:=hv.form;have HP:=Lib.hid hv;have aN:=hu.key;have bB:=hu.len;obtain⟨n,hn⟩:=D9 (ks.length);have HN:=Lib.hid hn;rw[←hn]at HP hkn ⊢;clear hv hn;obtain⟨W0,aE⟩:=D9 ((w.alloc (Obj.cells (N9 u).toArray 69)));have hL:W0=Z0 w [(69,(N9 u))]:=aE;have B0:=BL' hL;have aB:=KZ' hL rfl;clear hL;have f1:=Bk.rowvc (n:=129) (aB) ((hu.len));rw[aE]at f1;go_enter Tryz.func26,Tryz.ntmps26;go_wp2_with fail;rw[←aE];clear f1;clear aE;refine (A1v u hu W0).mono ?_;rintro e W2 ⟨rfl,b3⟩;have B2:=X4 B0 b3;have aA:=aB.bl b3;clear b3 B0 aB;cases hsg:signedB u;case false=>
  have HR:=Lib.hid (B3s (ks:=ks) hsg);clear hsg;go_wp2_with fail;exact bodyPost_ret (v:=.tuple #[.slice none 0 0,.int .i64 110]) (C8 rfl (C5.tmp rfl) (C5.tmp rfl)) rfl ⟨_,by rw[HR.out.2],by rw[HR.out.1];exact OwnK.nil _ _,B2⟩
 case true=>
  have HS:=Lib.hid hsg;clear hsg;by_cases hve:u.ver=(n:Int)+1
  ·
   have aO:(u.ver != (n:Int)+1)=false:=by rw[hve];simp
   have HR:=Lib.hid (B6a HS.out (by rw[←HN.out];exact hve));clear hve;have f4:=UV.loadver (aA) hu;go_wp2_with fail;clear f4;clear aO;have S0:=Nq W2;have aQ:=Lib.hid (HP.out.up (C3 B2 S0 B2.size));refine Ij (fun W=>Bk W (w.heap.size) 69 (N9 u)) ?_;refine Cn (A:=?bC) [0,2,3] (aA.drew) (fun W hW=>?aR) ?bD;case aR=>have f3:=UV.loadkey hW hu;exact Fa
   refine Cf [zk 1 18 W2.drew.heap.size ks,zl 4 21 40 (c8 u.key)] (by kernel_rfl) (fun W hW=>aA.drew.bl hW) ?aS ?aT ?aU;case aS=>exact Mp ⟨zk_mono _ _ _ _,Mp ⟨zl_mono _ _ _ _,fun _ h=>by cases h⟩⟩
   case aT=>
    refine Mp ⟨?s1,Mp ⟨?s4,fun _ h=>by cases h⟩⟩;case s1=>
     intro o ho us W hW hp Q' hQ';obtain rfl:=Option.some.inj ho;clear hp ho;rw[D8]at hQ' ⊢;dsimp only[C6,O6,List.foldl,zk,zl]at hQ' ⊢;simp only[Nv];have aV:=Lib.hid (aQ.out.up hW);go_wp2_with fail;refine (B6o _ ks W aV.out (by rw[←HN.out];omega)).mono ?_;rintro e W2 ⟨r,rfl,O2,b2⟩;have O2:=Lib.hid (O2.less hW.size);go_wp2_with fail;exact FE' (hQ' _ _ b2 O2.out nofun)
    case s4=>intro o ho us W hW hp Q' hQ';obtain rfl:=Option.some.inj ho;clear hp ho;rw[D8]at hQ' ⊢;dsimp only[C6,O6,List.foldl,zk,zl]at hQ' ⊢;simp only[Nv];go_wp2_with fail;exact FE' (hQ' _ _ (U7 _ _) ⟨_,rfl,Bk.new W _ (c8 u.key)⟩ nofun)
   case aU=>
    intro us W1 b1 hg aG aW;have O1:OwnK W1 W2.drew.heap.size (us 1) ks:=hg _ (Yi 0 rfl);obtain⟨p,aF,K4⟩:=hg _ (Yi 1 rfl);have aF:us 4=.slice (some ⟨p,0,none⟩) 1 1:=aF;have K4:Bk W1 p 40 (c8 u.key):=K4;obtain⟨A1,c1,aH,_,_⟩:=O1.form;rw[aH]at O1;rw[D8];dsimp only[O6,List.foldl,zk,zl];simp only[Nv];rw[aH,aF];clear hg aG aW aH aF;have aI:=aA.drew.bl b1;have BX:=C3 B2 (C3 S0 b1 S0.size) B2.size;have zc:=Nat.le_trans B2.size S0.size;have z1:=b1.size;rw[←HN.out]at O1 ⊢;have HO:=Lib.hid O1;have aX:Hid (Rd W1 0 W1.heap.size (some ⟨p,0,none⟩) (c8 u.key)):=Lib.hid (.inr ⟨p,0,rfl,Nat.zero_le _,K4.lt,fun j x hj=>by rw[Nat.zero_add];exact K4.at_ hj⟩);have aY:Hid (∀x∈c8 u.key,x.oneCell'=true):=Lib.hid (by intro x hx;obtain⟨y,_,rfl⟩:=List.mem_map.1 hx;rfl);clear O1 K4;refine Q6 5 fun Q' hQ'=>?_;dsimp only[C6];have aP:=Lib.hid hQ';clear hQ';go_wp2_with (at_builtin;refine B7p 49 (A8 (z8 32)) 32 Tryz.underlying49 Yo (by simp[A8,Value.cells]) (by decide) (by decide) rfl _ _ rfl rfl (n:=n) (base:=W2.drew.heap.size) (xs:=c8 ks.flatten) (by have:=HO.out.2;rwa [←HN.out]at this) (some ⟨p,0,none⟩) 1 1 rfl (c8 u.key) (by simp[aN]) 0 _ aX.out aY.out (by omega) z1 ?_;intro A' c' w5 aJ aK aD aL aZ aM);have aC:=aI.below aL aA.drew.lt;have bA:Hid (OwnK w5 W2.drew.heap.size (.slice A' (n+1) c') (ks++[u.key])):=Lib.hid ⟨fun q hq=>by
     rcases List.mem_append.1 hq with hq | hq
     ·exact HO.out.1 q hq
     ·simp at hq;subst hq;exact aN,by
     have e:c8 (ks++[u.key]).flatten=c8 ks.flatten++c8 u.key:=by simp[c8]
     rw[e,List.length_append,List.length_singleton,←HN.out];exact aD⟩
    have B5:=BX.trans (aL.mono zc);clear aD aZ aM aJ aK aL;refine aP.out _ _ aC ?_;clear aP;refine Q6 6 fun Q' hQ'=>?_;dsimp only[C6];go_wp2_with fail;refine hQ' _ _ aC ?_;clear hQ';refine Q6 7 fun Q' hQ'=>?_;dsimp only[C6];go_wp2_with fail;refine hQ' _ _ aC ?_;clear hQ';refine Gn ?_;go_wp2_with fail;exact bodyPost_ret (v:=.tuple #[.slice A' (n+1) c',.int .i64 0]) (C8 rfl (C5.tmp rfl) (C5.tmp rfl)) rfl ⟨_,by rw[HR.out.2],by rw[HR.out.1];exact bA.out.less zc,B5⟩
  ·
   have aO:(u.ver != (n:Int)+1)=true:=by simpa using hve
   have HR:=Lib.hid (B5z HS.out (by rw[←HN.out];exact hve));clear hve;have f5:=UV.loadver (aA) hu;go_wp2_with fail;clear f5;exact bodyPost_ret (v:=.tuple #[.slice none 0 0,.int .i64 111]) (C8 rfl (C5.tmp rfl) (C5.tmp rfl)) rfl ⟨_,by rw[HR.out.2],by rw[HR.out.1];exact OwnK.nil _ _,B2⟩
theorem C3x (e:Int) (a:Option Addr) (d:Int) (m:Value) (w:World) :
 Calls Tryz.prog 35 #[.agg #[.int .i64 e,.pointer a,.int .i64 d,m]] w fun x w'=>x=.returned (.agg #[.pointer a,.int .i64 d])∧Below w.heap.size w w':=by
 go_enter Tryz.func35,Tryz.ntmps35;go_wp2;exact bodyPost_ret (v:=.agg #[.pointer a,.int .i64 d]) (by simp[results,Tryz.results35,go_sem]) rfl ⟨rfl,by first | exact ((U7 _ _).alloc (by simp) _) | exact (((U7 _ _).alloc (by simp) _).setCell (by simp) _).setCell (by simp) _⟩
theorem C5w (t:Tr) (e:Int) (p:Value) (d:Int) (m:Value) (w:World) (h:At w w.heap.size t p) :
 Calls Tryz.prog 10 #[.agg #[.int .i64 e,p,.int .i64 d,m]] w fun x w'=>x=.returned (A8 t.root)∧Below w.heap.size w w':=by
 have hl:=Tr.root_length t;obtain⟨ap,rfl⟩:=h.form;obtain⟨w0,aA⟩:=D9 ((w.alloc (Obj.cells #[.int .i64 e,.pointer ap,.int .i64 d,m] 34)).alloc (Obj.cells (c8 (z8 32)).toArray 40));have B0:Below w.heap.size w w0:=by rw[aA];exact (U7 _ _).alloc (by simp) _
 have R0:Bk w0 (w.heap.size+1) 40 (c8 (z8 32)):=by rw[aA];simpa using Bk.new (w.alloc (Obj.cells #[.int .i64 e,.pointer ap,.int .i64 d,m] 34)) 40 (c8 (z8 32))
 go_enter Tryz.func10,Tryz.ntmps10;go_wp2_with fail;rw[←aA];clear aA;refine (A7o t _ _ w0 ((h.below B0).more B0.size)).mono ?_;rintro x w1 ⟨rfl,h1⟩;have R1:=R0.bl h1;have B1:=X4 B0 h1;have aB:=Nn 32 R1 (by simp);go_wp2_with fail;exact bodyPost_ret (C7 rfl _ _ _ _ _ _ rfl (R1.puts (vs:=c8 t.root) (by simp[hl])) Tryz.underlying40 rfl (by simp[H9,hl])) rfl ⟨rfl,C0 B1 (by simp) _⟩
def RV (v:Value):Option (DataW Value×List MemPlace):=some (.held v,[])
def MapV (w:World) (b n:Nat) (m:List UInt8→Option Value):Prop:=∃D:DataW Value,w.ownsMap Tryz.prog 40 RV b n D∧
 ∀k:List UInt8,k.length=32→Maps.has D (Wi k)=(m k).isSome∧∀z,D.atKey (Wi k) z=(match m k with | some v=>.held v | none=>z)
def Sd (m:List UInt8→Option Value) (k:List UInt8) (v:Value):List UInt8→Option Value:=fun x=>if x=k then some v else m x
theorem MapV.made (w:World):MapV (w.alloc (.map #[] 0)) w.heap.size 0 (fun _=>none):=⟨.map [],World.ownsMap_made _ _ _ _,fun k hk=>⟨rfl,fun z=>rfl⟩⟩
theorem MapV.put {w:World} {b n:Nat} {m:List UInt8→Option Value} (h:MapV w b n m) {k:List UInt8} (hk:k.length=32) (v:Value) :
 ∃D:DataW Value,w.ownsMap Tryz.prog 40 RV b n D∧∀w',w'.ownsMap Tryz.prog 40 RV b (n+1) (D.put (Wi k) (.held v))→MapV w' b (n+1) (Sd m k v):=by
 obtain⟨D,hD,hl⟩:=h;refine ⟨D,hD,fun w' h'=>⟨_,h',fun k' hk'=>?_⟩⟩;unfold Sd;by_cases e:k'=k
 ·subst e;rw[if_pos rfl];exact ⟨Maps.has_put_same hD.isMap (B2b hk) _,fun z=>Maps.atKey_put_same hD.isMap (B2b hk) _ _⟩
 ·rw[if_neg e];have aA:=D4u hk' hk e;exact ⟨(Maps.has_put_other aA _).trans (hl k' hk').1,fun z=>(Maps.atKey_put_other aA _ _).trans ((hl k' hk').2 z)⟩
theorem MapV.kept {w w':World} {b n:Nat} {m:List UInt8→Option Value} {row:Option Nat} (h:MapV w b n m) (hg:w.grownBy w' row) (hne:some b≠row):MapV w' b n m:=by
 obtain⟨D,hD,h1⟩:=h;exact ⟨D,hD.kept hg hne,h1⟩
theorem MapV.lt {w:World} {b n:Nat} {m:List UInt8→Option Value} (h:MapV w b n m):b<w.heap.size:=by
 obtain⟨D,hD,h1⟩:=h;exact hD.lt
theorem MapV.below {w w':World} {b n B:Nat} {m:List UInt8→Option Value} (h:MapV w b n m) (hb:Below B w w') (hB:w.heap.size≤B):MapV w' b n m:=
 h.kept (row:=none) ⟨hb.os,hb.tape,hb.output,hb.size,fun k hk _=>hb.block k (by omega)⟩ (by simp)
theorem MapV.setCell {w:World} {b n:Nat} {m:List UInt8→Option Value} (h:MapV w b n m) {a:Addr} (ha:b≠a.block) (u:Value):MapV (w.setCell a u) b n m:=by
 obtain⟨D,hD,h1⟩:=h;exact ⟨D,hD.setCell ha u,h1⟩
theorem A9c (w:World):(zeroValue 49).run Tryz.prog w=.ok (.slice none 0 0) w:=by kernel_rfl
theorem MapV.look {w:World} {b n:Nat} {m:List UInt8→Option Value} (h:MapV w b n m) {k:List UInt8} (hk:k.length=32) :
 (Instr.lookup 32 (.map (some b)) (A8 k) false).run Tryz.prog w=.ok ((m k).getD (.slice none 0 0)) w:=by
 obtain⟨D,⟨es,aA,hb,F,_,rfl⟩,hl⟩:=h;obtain⟨_,h2⟩:=hl k hk;rcases Maps.fit_look false Cd Tryz.underlying32 (A9c w) hb F (Fx hk) with ⟨hrun,_,hat⟩ | ⟨e0,y,_,_,hrun,hRv,hat,_⟩
 ·cases hm:m k with
  | none=>exact hrun
  | some v=>
   have h3:=h2 .nil;rw[hat,hm]at h3;cases h3
 ·have hy:y.1=.held e0.val:=by have:some (DataW.held e0.val,([]:List MemPlace))=some y:=hRv;injection this with this;rw[←this]
  cases hm:m k with
  | none=>
   have h3:=h2 .nil;rw[hat,hm,hy]at h3;cases h3
  | some v=>
   have h3:=h2 .nil;rw[hat,hm,hy]at h3;injection h3 with h3;rw[←h3];exact hrun
def MV (w:World) (mv:Value) (m:List UInt8→Option Value):Prop:=(mv=.map none∧∀k,m k=none)∨∃b n,mv=.map (some b)∧MapV w b n m
theorem MV.up {w w':World} {mv:Value} {m:List UInt8→Option Value} (h:MV w mv m) (hb:Below w.heap.size w w'):MV w' mv m:=by
 rcases h with h | ⟨b,n,h1,h2⟩
 ·exact .inl h
 ·exact .inr ⟨b,n,h1,h2.below hb (Nat.le_refl _)⟩
theorem MV.look {w:World} {mv:Value} {m:List UInt8→Option Value} (h:MV w mv m) {k:List UInt8} (hk:k.length=32) :
 (Instr.lookup 32 mv (A8 k) false).run Tryz.prog w=.ok ((m k).getD (.slice none 0 0)) w:=by
 rcases h with ⟨rfl,hm⟩ | ⟨b,n,rfl,h2⟩
 ·rw[hm k];exact Maps.look_nil false Cd Tryz.underlying32 (A9c w) (Fx hk)
 ·exact h2.look hk
def A5j (w:World) (m:List UInt8→Option Value) (K:List UInt8→List (List UInt8)):Prop:=∀k,KS w ((m k).getD (.slice none 0 0)) (K k)
theorem A5j.up {w w':World} {m:List UInt8→Option Value} {K:List UInt8→List (List UInt8)} (h:A5j w m K) (hb:Below w.heap.size w w'):A5j w' m K:=fun k=>(h k).up hb
theorem A6r (e:Int) (ap:Option Addr) (d:Int) (mv:Value) (hmv:mv=.map none∨∃b,mv=.map (some b)) (m:List UInt8→Option Value) (K:List UInt8→List (List UInt8)) (id:List UInt8) (hid:id.length=32) (hkn:(K id).length≤1099511627) (w:World) (hm:MV w mv m) (hK:A5j w m K) :
 Calls Tryz.prog 21 #[.agg #[.int .i64 e,.pointer ap,.int .i64 d,mv],A8 id] w fun x w'=>∃u,x=.returned u∧(OwnK w' w.heap.size u (K id)∧(K id=[]→u=.slice none 0 0))∧Below w.heap.size w w':=by
 obtain⟨w0,aB⟩:=D9 ((w.alloc (Obj.cells #[.int .i64 e,.pointer ap,.int .i64 d,mv] 34)).alloc (Obj.cells (c8 id).toArray 40));have B0:Below w.heap.size w w0:=by rw[aB];exact (U7 _ _).alloc (by simp) _
 have aA:=(hm.up B0).look hid;have aC:=Lib.hid ((hK.up B0) id);have I0:Bk w0 (w.heap.size+1) 40 (c8 id):=by rw[aB];simpa using Bk.new (w.alloc (Obj.cells #[.int .i64 e,.pointer ap,.int .i64 d,mv] 34)) 40 (c8 id)
 have ri:=Bk.row8 (n:=32) I0 hid;obtain⟨v,hv⟩:=D9 ((m id).getD (.slice none 0 0));rw[←hv]at aA aC;rw[aB]at aA ri;clear hv I0 hm hK;rcases hmv with rfl | ⟨b,rfl⟩;all_goals
  go_enter Tryz.func21,Tryz.ntmps21;go_wp2_with fail;rw[←aB];refine (A0x v _ w0 aC.out hkn).mono ?_;rintro x w1 ⟨u,rfl,⟨O1,O2⟩,b1⟩;have O:=Lib.hid (And.intro (OwnK.less O1 B0.size) O2);clear O1 O2;go_wp2_with fail;go_ret;exact ⟨_,rfl,O.out,C3 B0 b1 B0.size⟩
theorem C5u (e:Int) (ap:Option Addr) (d:Int) (mv:Value) (hmv:mv=.map none∨∃b,mv=.map (some b)) (m:List UInt8→Option Value) (K:List UInt8→List (List UInt8)) (id:List UInt8) (hid:id.length=32) (hkn:(K id).length≤1099511627) (w:World) (hm:MV w mv m) (hK:A5j w m K) :
 Calls Tryz.prog 21 #[.agg #[.int .i64 e,.pointer ap,.int .i64 d,mv],A8 id] w fun x w'=>∃u,x=.returned u∧OwnK w' w.heap.size u (K id)∧Below w.heap.size w w':=
 (A6r e ap d mv hmv m K id hid hkn w hm hK).mono fun _ _ ⟨u,e,o,b⟩=>⟨u,e,o.1,b⟩
theorem B6n (w:World):Calls Tryz.prog 25 #[.map none] w fun e w'=>e=.returned (.map none)∧w=w':=by
 have hq:=fun w=>run_eql_map_nil_sl (P:=Tryz.prog) w 32 _ _ none Tryz.underlying32;go_enter Tryz.func25,Tryz.ntmps25;go_wp2;go_ret;exact ⟨rfl,rfl⟩
theorem B5u (b:Nat) (es:Array MapEntry) (clock:Nat) (w:World) (hb:w.heap[b]?=some (.map es clock)) :
 Calls Tryz.prog 25 #[.map (some b)] w fun e w'=>e=.returned (.map (some w.heap.size))∧w'=w.alloc (.map es clock):=by
 have hq:=fun w=>run_eql_map_nil_sl (P:=Tryz.prog) w 32 _ _ (some b) Tryz.underlying32;have aA:(callFunc 66 #[.iface 32 (.map (some b))]).run Tryz.prog w=.ok (.value (.iface 32 (.map (some w.heap.size)))) (w.alloc (.map es clock)):=by rw[run_callFunc_extern Tryz.func66 (by kernel_rfl) (by kernel_rfl) (by kernel_rfl) (e:=Extern.MapsClone.clone) (by kernel_rfl),run_maps_clone_sl w 32 hb];rfl
 have aB:=fun (W:World) (v:Value)=>run_typeAssert_map_sl (P:=Tryz.prog) W 32 20 _ _ v Tryz.underlying32;go_enter Tryz.func25,Tryz.ntmps25;go_wp2;go_ret;exact ⟨rfl,rfl⟩
section
abbrev En := List UInt8 × List (List UInt8)
def lookE:List En→List UInt8→List (List UInt8)
 | [],_=>[]
 | q::L,x=>if q.1=x then q.2 else lookE L x
def pairsE (L:List En):List Pr:=L.map fun q=>(q.1,W8 q.2)
noncomputable def Cj (id key:List UInt8) (L:List En):List En:=(L.filter fun q=>Jy q.1 id)++[(id,lookE L id++[key])]++(L.filter fun q=>Jy id q.1)
structure OkE (L : List En) : Prop where
 id:∀q∈L,q.1.length=32
 one:∀q∈L,0<q.2.length
 key:∀q∈L,∀k∈q.2,k.length=32
 rise:L.Pairwise fun x y=>klt x.1 y.1
theorem OkE.nil:OkE []:=⟨by simp,by simp,by simp,List.Pairwise.nil⟩
theorem Fo:∀ {L:List En},L.Pairwise (fun x y=>klt x.1 y.1)→∀q∈L,lookE L q.1=q.2
 | [],_,q,h=>by cases h
 | p::L,hp,q,h=>by
  rw[List.pairwise_cons]at hp;unfold lookE;rcases List.mem_cons.1 h with rfl | h
  ·rw[if_pos rfl]
  ·rw[if_neg (hp.1 q h).ne];exact Fo hp.2 q h
theorem Lw:∀ {L:List En} {x:List UInt8},(∀q∈L,q.1≠x)→lookE L x=[]
 | [],_,_=>rfl
 | p::L,x,h=>by
  unfold lookE;rw[if_neg (h p (by simp))];exact Lw fun q hq=>h q (by simp[hq])
theorem Ru {L:List En} (hk:∀q∈L,∀k∈q.2,k.length=32) (x:List UInt8):∀k∈lookE L x,k.length=32:=by
 induction L with
 | nil=>intro k h;cases h
 | cons p L ih=>
  unfold lookE;split
  ·exact hk p (by simp)
  ·exact ih fun q hq=>hk q (by simp[hq])
section
variable {L : List En} {id key : List UInt8}
theorem Hk (ok:OkE L) (hid:id.length=32) (q:En):q∈Cj id key L↔q=(id,lookE L id++[key])∨(q∈L∧q.1≠id):=by
 unfold Cj;simp only[List.mem_append,List.mem_filter,List.mem_singleton];constructor
 ·rintro ((⟨h1,h2⟩ | rfl) | ⟨h1,h2⟩)
  ·exact .inr ⟨h1,(U6.1 h2).ne⟩
  ·exact .inl rfl
  ·exact .inr ⟨h1,fun e=>(U6.1 h2).ne e.symm⟩
 ·rintro (rfl | ⟨h1,h2⟩)
  ·exact .inl (.inr rfl)
  ·rcases klt.total (ok.id q h1) hid h2 with h3 | h3
   ·exact .inl (.inl ⟨h1,U6.2 h3⟩)
   ·exact .inr ⟨h1,U6.2 h3⟩
theorem OkE.with (ok:OkE L) (hid:id.length=32) (hkey:key.length=32):OkE (Cj id key L):=by
 refine ⟨fun q hq=>?_,fun q hq=>?_,fun q hq=>?_,?_⟩
 ·rcases (Hk ok hid q).1 hq with rfl | h
  ·exact hid
  ·exact ok.id q h.1
 ·rcases (Hk ok hid q).1 hq with rfl | h
  ·simp
  ·exact ok.one q h.1
 ·rcases (Hk ok hid q).1 hq with rfl | h
  ·intro k hk;rcases List.mem_append.1 hk with hk | hk
   ·exact Ru ok.key id k hk
   ·simp at hk;subst hk;exact hkey
  ·exact ok.key q h.1
 ·unfold Cj;rw[List.pairwise_append,List.pairwise_append];refine ⟨⟨ok.rise.sublist List.filter_sublist,List.pairwise_singleton _ _,?_⟩,ok.rise.sublist List.filter_sublist,?_⟩
  ·intro a ha b hb;simp only[List.mem_singleton]at hb;subst hb;exact U6.1 (List.mem_filter.1 ha).2
  ·intro a ha b hb;have h2:=U6.1 (List.mem_filter.1 hb).2;rcases List.mem_append.1 ha with ha | ha
   ·exact (U6.1 (List.mem_filter.1 ha).2).trans h2
   ·simp only[List.mem_singleton]at ha;subst ha;exact h2
theorem Co (ok:OkE L) (hid:id.length=32) (hkey:key.length=32) (x:List UInt8):lookE (Cj id key L) x=if x=id then lookE L id++[key] else lookE L x:=by
 have aA:=ok.with (id:=id) (key:=key) hid hkey;by_cases e:x=id
 ·subst e;rw[if_pos rfl];exact Fo aA.rise _ ((Hk ok hid _).2 (.inl rfl))
 ·rw[if_neg e];by_cases h:∃q∈L,q.1=x
  ·obtain⟨q,hq,rfl⟩:=h;rw[Fo ok.rise q hq];exact Fo aA.rise q ((Hk ok hid _).2 (.inr ⟨hq,e⟩))
  ·have h':∀q∈L,q.1≠x:=fun q hq he=>h ⟨q,hq,he⟩;rw[Lw h'];refine Lw fun q hq=>?_;rcases (Hk ok hid q).1 hq with rfl | h2
   ·exact fun he=>e he.symm
   ·exact h' q h2.1
theorem B6s:pairsE (Cj id key L)=B3b id (W8 (lookE L id++[key])) (pairsE L):=by
 unfold pairsE Cj B3b;rw[List.map_append,List.map_append,List.filter_map,List.filter_map];rfl
theorem X1:(pairsE L).length=L.length:=by simp[pairsE]
theorem Qs {t:Tr} (okt:Okt t) (ok:OkE L) (hp:t.pairs=pairsE L) (x:List UInt8):t.look x 0=if (lookE L x).length=0 then none else some (W8 (lookE L x)):=by
 by_cases h:∃q∈L,q.1=x
 ·obtain⟨q,hq,rfl⟩:=h;rw[Fo ok.rise q hq,if_neg (Nat.ne_of_gt (ok.one q hq)),Da okt,hp];exact List.mem_map.2 ⟨q,hq,rfl⟩
 ·have h':∀q∈L,q.1≠x:=fun q hq he=>h ⟨q,hq,he⟩;rw[Lw h',if_pos (show ([]:List (List UInt8)).length=0 from rfl)];cases hl:t.look x 0 with
  | none=>rfl
  | some v=>
   exfalso;rw[Da okt,hp]at hl;obtain⟨q,hq,e⟩:=List.mem_map.1 hl;injection e with e1 e2;exact h' q hq e1
theorem Xv {t:Tr} (okt:Okt t) (hp:t.pairs=pairsE L) (hid:id.length=32):Okt (Uq t id (W8 (lookE L id++[key])))∧(Uq t id (W8 (lookE L id++[key]))).pairs=pairsE (Cj id key L):=by
 refine ⟨okt.put hid (U2 _),?_⟩;rw[B6s,←hp];exact (C5j hid (U2 _) okt).symm
theorem B4y {t:Tr} (okt:Okt t) (hp:t.pairs=pairsE L) (hid:id.length=32):(Cj id key L).length≤L.length+1:=by
 have h:=C8h (v:=W8 (lookE L id++[key])) okt hid;have h2:=(Xv (key:=key) okt hp hid).2;rw[Tr.len_pairs,h2,X1,Tr.len_pairs,hp,X1]at h;exact h
end
noncomputable def Cq (L:List En) (u:UV):List En:=if Df (lookE L u.id) u then Cj u.id u.key L else L
noncomputable def applyE (us:List UV) (L:List En):List En:=us.foldl Cq L
theorem Dn {ks:List (List UInt8)} {u:UV}:Bp ks u=0↔Df ks u=true:=by
 unfold Bp Df;cases h:signedB u
 ·simp
 ·by_cases h2:u.ver=(ks.length:Int)+1<;>simp[h2]
theorem Rh {ks:List (List UInt8)} {u:UV} (h:Df ks u=true):Dd ks u=ks++[u.key]:=if_pos h
end
end Go.Proofs.YtmllnpokbbabhaaGreat
