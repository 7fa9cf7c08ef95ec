/- A part of the proof of AuditBatch. -/
import Derived.RangeFuncNested
import Derived.RangeFuncBound
import Derived.RangeFuncCalls
import Derived.RangeFuncLeaves
import Derived.RangeFuncKeeps
import Derived.Shelf.Abstract
import Derived.Shelf.RegionOpen
import Derived.WalkKit
import Derived.OwnWalkIn
import Derived.TacticsInMore
import Derived.Outline
import Derived.Test.YtdfpoofbgjilgaaGreatUbg
set_option linter.unusedVariables false
set_option linter.unusedSimpArgs false
set_option maxRecDepth 100000
set_option maxHeartbeats 40000000
namespace Go.Proofs.YtdfpoofbgjilgaaGreat
open Go Go.RowKit Sh
structure AV where
 who:Int
 ver:Int
 key:Int
 wrong:Bool
 cut:Bool
def AV.cells (a:AV):List Value:=[.int .i64 a.who,.int .i64 a.ver,.int .i64 a.key,.bool a.wrong,.bool a.cut]
def As (w:World) (B:Nat) (v:Value) (l:List AV):Prop:=∃A c,v=.slice A l.length c∧l.length≤c∧c≤9223372036854775807∧Rd w 0 B A (l.flatMap AV.cells)
def C9d (v:Int):UInt8:=UInt8.ofNat (v % 256).toNat
theorem B6k (v:Int):IntKind.u8.wrap v=n8 (C9d v):=by
 unfold n8 C9d;rw[UInt8.toNat_ofNat'];simp only[IntKind.wrap,IntKind.bits,IntKind.signed,Bool.false_and,Bool.false_eq_true,if_false];omega
def RI (v:Value):Option (DataW Value×List MemPlace):=match v with | .int .i64 _=>some (.held v,[]) | _=>none
theorem D8f {v:Value} {y:DataW Value×List MemPlace} (h:RI v=some y):∃x,v=.int .i64 x:=by
 unfold RI at h;split at h
 ·exact ⟨_,rfl⟩
 ·cases h
theorem Kp:Maps.Keyed Tryz.prog 3:=Maps.int_keyed Tryz.underlying3
def D8d (w:World) (b n:Nat):Prop:=∃D:DataW Value,w.ownsMap Tryz.prog 3 RI b n D
theorem D8d.row {w:World} {b n:Nat} (h:D8d w b n):∀r,some b=some r→∃o:Obj,w.heap[r]?=some o∧o.isCells=false:=by
 obtain⟨D,⟨es,aA,hb,_⟩⟩:=h;intro r e;injection e with e;subst e;exact ⟨_,hb,rfl⟩
theorem C4h {w:World} {g base sz n:Nat} {T T':TypeId} {cs xs:List Value} {v:Value} (h:Bk w g T cs) (ho:w.ownsRow base T' sz v n xs) (hT:T≠T'):some g≠v.ownBlock:=fun e=>by
 rcases ho.2 with ⟨hv,_⟩ | ⟨g',cap,cur,hv,_,hh,_⟩
 ·rw[hv]at e;cases e
 ·rw[hv]at e;injection e with e;subst e;unfold Bk at h;rw[h]at hh;injection hh with hh;injection hh with _ h2;exact hT h2
def OwnU (w:World) (base:Nat) (v:Value) (us:List UV):Prop:=(∀u∈us,u.Ok)∧w.ownsRow base 48 129 v us.length (us.flatMap P9)
theorem D7s {w:World} {base sz n:Nat} {T:TypeId} {v:Value} {xs:List Value} (h:w.ownsRow base T sz v n xs):(v=.slice none 0 0∧n=0)∨∃g tl c,v=.slice (some ⟨g,0,none⟩) n c∧Bk w g T (xs++tl)∧g<w.heap.size:=by
 rcases h.2 with h1 | ⟨g,cap,cur,hv,hg,hh,h1,h2,h3,h4⟩
 ·exact .inl h1
 ·refine .inr ⟨g,cur.toList.drop (n*sz),cap,hv,?_,(Array.getElem?_eq_some_iff.1 hh).1⟩;unfold Bk;rw[hh,←h4,List.take_append_drop]
theorem OwnU.us {w:World} {base:Nat} {v:Value} {us:List UV} (h:OwnU w base v us):US w w.heap.size v us:=by
 rcases D7s h.2 with ⟨h1,h2⟩ | ⟨g,tl,c,h1,h2,h3⟩
 ·exact .inl ⟨List.eq_nil_of_length_eq_zero h2,h1⟩
 ·exact .inr ⟨g,tl,c,h1,⟨h.1,h2⟩,h3⟩
theorem US.grown {w w':World} {B:Nat} {v:Value} {us:List UV} (h:US w B v us) {base sz n:Nat} {T:TypeId} {u:Value} {xs:List Value} (ho:w.ownsRow base T sz u n xs) (hT:48≠T) (hg:w.grownBy w' u.ownBlock):US w' B v us:=by
 rcases h with h | ⟨g,tl,c,h1,h2,h3⟩
 ·exact .inl h
 ·exact .inr ⟨g,tl,c,h1,⟨h2.1,h2.2.grown hg (C4h h2.2 ho hT)⟩,h3⟩
theorem We:(Tryz.prog.info? 48).map (fun i=>(i.zero,i.size,i.bytes))=some (some (Te (Ic 129)),129,136):=by kernel_rfl
@[go_sem ↓ high] theorem F2t (w : World) (ρ : Operand → Value) (dst : Option Tmp) (ty : TypeId) (pos : String) (after : Array Edge) (guard : Option (Nat × Bool)) (x : Operand) :
 (execOp ρ { dst,op:=.buildSlice 44 1 #[(0,x)],type:=ty,pos,after,guard }).run Tryz.prog w=Ol 129 48 w (P8 Tryz.prog ρ { dst,op:=.buildSlice 44 1 #[(0,x)],type:=ty,pos,after,guard } w) (ρ x):=
 Vk w ρ dst ty pos after guard 44 48 129 136 (Te (Ic 129)) x Tryz.underlying44 We (by simp[Te,P9,Ic,Value.cells]) (by decide) (by decide)
@[go_sem] theorem E9m (n : Nat) (e : TypeId) (w : World) (raw : Result Next) (u : UV) (h : u.length = n) : Ol n e w raw (Te u) = .ok (.value (.slice (some ⟨w.heap.size, 0, none⟩) 1 1)) (w.alloc (.cells (P9 u).toArray e)) := by
 unfold Te;rw[A3t,if_pos (by rw[List.size_toArray];exact h)]
section
structure IsTree (t : Tr) (L : List En) : Prop where
 ok:Okt t
 prs:t.pairs=pairsE L
theorem IsTree.uniq {t s:Tr} {L:List En} (h:IsTree t L) (h':IsTree s L):t=s:=Ok.ext_mem h.ok h'.ok fun x=>by rw[h.prs,h'.prs]
theorem Bh.okE {w:World} {dv:Value} {e:Nat} {L:List En} {N:Nat} (h:Bh w dv e L N):OkE L:=by
 obtain⟨ap,mv,m,t,h1,h2,h3,h4,h5,h6,h7⟩:=h;exact h4
theorem Bh.tree {w:World} {dv:Value} {e:Nat} {L:List En} {N:Nat} (h:Bh w dv e L N):∃t,IsTree t L:=by
 obtain⟨ap,mv,m,t,h1,h2,h3,h4,h5,h6,h7⟩:=h;exact ⟨t,h5,h6⟩
theorem MVN.form2 {w:World} {mv:Value} {m:List UInt8→Option Value} {N:Nat} (h:MVN w mv m N):∃b,mv=.map b:=by
 rcases h.form with h | ⟨b,h⟩
 ·exact ⟨_,h⟩
 ·exact ⟨_,h⟩
theorem Bh.form {w:World} {dv:Value} {e:Nat} {L:List En} {N:Nat} (h:Bh w dv e L N):∃ap b,dv=.agg #[.int .i64 (e:Int),.pointer ap,.int .i64 0,.map b]:=by
 obtain⟨ap,mv,m,t,h1,h2,_⟩:=h;obtain⟨b,rfl⟩:=h2.form2;exact ⟨ap,b,h1⟩
section
variable {w : World} {dv : Value} {e N : Nat} {L : List En} {t : Tr}
theorem B2n (h:Bh w dv e L N) (ht:IsTree t L):Calls Tryz.prog 17 #[dv] w fun x w'=>x=.returned (A8 t.root)∧Below w.heap.size w w':=by
 obtain⟨ap,mv,m,s,rfl,h2,h3,h4,h5,h6,h7⟩:=h;obtain rfl:=ht.uniq ⟨h5,h6⟩;exact C1d t _ _ _ _ w h7
theorem E0r (h:Bh w dv e L N) (id:List UInt8) (hid:id.length=32) (hks:(lookE L id).length≤1000000):Calls Tryz.prog 40 #[dv,A8 id] w fun x w'=>∃u,x=.returned u∧OwnK w' w.heap.size u (lookE L id)∧Below w.heap.size w w':=by
 obtain⟨ap,mv,m,s,rfl,h2,h3,h4,h5,h6,h7⟩:=h;exact C2v _ ap 0 mv h2.form m (lookE L) id hid (by omega) w h2.mv h3
theorem A4w (h:Bh w dv e L N) (id:List UInt8) (hid:id.length=32) (hks:(lookE L id).length≤1000000):Calls Tryz.prog 40 #[dv,A8 id] w fun x w'=>∃u,x=.returned u∧(OwnK w' w.heap.size u (lookE L id)∧(lookE L id=[]→u=.slice none 0 0))∧Below w.heap.size w w':=by
 obtain⟨ap,mv,m,s,rfl,h2,h3,h4,h5,h6,h7⟩:=h;exact A3q _ ap 0 mv h2.form m (lookE L) id hid (by omega) w h2.mv h3
end
end
section
noncomputable def u1:UV:=mkU (h1 1) 1 (h1 2)
theorem E7m:u1.Ok:=C3y _ _ (Dm 2)
theorem D7v:u1.key=h1 2:=by unfold u1 mkU;rfl
theorem C1v {t:Tr} {k v:List UInt8} (ht:Okt t) (h:t.pairs=[(k,v)]):t=.lf k v:=by
 cases t with
 | e=>simp[Tr.pairs]at h
 | lf a b=>
  simp only[Tr.pairs,List.cons.injEq,Prod.mk.injEq,and_true]at h;rw[h.1,h.2]
 | nd l r=>
  have h2:(Tr.nd l r).pairs.length=1:=by rw[h];rfl
  rw[←Tr.len_pairs]at h2;have h3:2≤l.len+r.len:=ht.2.1;have e:(Tr.nd l r).len=l.len+r.len:=rfl;omega
theorem B6o:mkU (h1 1) 1 (h1 2)=u1:=by unfold u1;rfl
attribute [irreducible] u1
theorem C5f (w:World) {N:Nat} (hN:w.heap.size=N) {u:UV} (hu:u.Ok):US (w.alloc (Obj.cells (P9 u).toArray 48)) (w.alloc (Obj.cells (P9 u).toArray 48)).heap.size (.slice (some ⟨N,0,none⟩) 1 1) [u]:=by
 subst hN;exact .inr ⟨w.heap.size,[],1,rfl,⟨fun x hx=>(by simp at hx;subst hx;exact hu),by simpa using Bk.new w 48 (P9 u)⟩,by simp⟩
theorem A1v (w:World):(Instr.build 56 #[]).run Tryz.prog w=.ok (.agg #[.int .i64 0,.pointer none,.int .i64 0,.map none]) w:=by kernel_rfl
attribute [local go_sem ↓ high] Fs Wa
end
section
variable {w wr : World} {M b m : Nat} {ov gv uv bv : Value} {os gs : List Value} {bs : List (List UV)} {us : List UV}
theorem B7v {base sz k:Nat} {T:TypeId} {v:Value} {xs:List Value} (ho:wr.ownsRow base T sz v k xs) (hr:∀r,some b=some r→∃o:Obj,wr.heap[r]?=some o∧o.isCells=false):v.ownBlock=none∨v.ownBlock≠some b:=by
 obtain⟨o,h1,h2⟩:=hr b rfl;rcases ho.2 with ⟨hv,_⟩ | ⟨g,cap,cur,hv,_,hh,_⟩
 ·left;rw[hv];rfl
 ·right
  rw[hv];intro e;injection e with e;subst e;rw[hh]at h1;injection h1 with h1;subst h1;cases h2
end
section
attribute [local go_sem] Oper.semAt_some
end
section
attribute [local go_sem] Oper.semAt_some
theorem E0q {w:World} {x:Int} {ap:Option Addr} {mb:Option Nat} {e N:Nat} {L:List En} {t:Tr} (h:Bh w (.agg #[.int .i64 x,.pointer ap,.int .i64 0,.map mb]) e L N) (ht:IsTree t L):At w w.heap.size t (.pointer ap):=by
 obtain⟨aA,mv,m,s,h1,h2,h3,h4,h5,h6,h7⟩:=h;have h8:=congrArg (fun v=>match v with | .agg a=>a.toList | _=>[]) h1;simp at h8;obtain rfl:=ht.uniq ⟨h5,h6⟩;rw[h8.2.1];exact h7
attribute [local go_sem ↓ high] Fs Vt
end
section
attribute [local go_sem] Oper.semAt_some
attribute [local go_sem ↓ high] Fs
end
section
attribute [local go_sem] Oper.semAt_some
theorem A4p {i:Nat} (h:i<1000000):wrap64 ((i:Int)+1)=(i:Int)+1:=by unfold wrap64;omega
attribute [local go_sem ↓ high] Fs
end
section
variable {W W' : World} {row : Option Nat} {T : TypeId} {B : Nat}
theorem Mb.ne {T':TypeId} {g:Nat} (h:Mb W row T) (h':Mb W (some g) T') (hT:T'≠T):some g≠row:=by
 intro e;obtain⟨c,f,h1⟩:=h g e.symm;obtain⟨c',f',h2⟩:=h' g rfl;rw[h1]at h2;injection h2 with h2;injection h2 with _ h2;exact hT h2.symm
theorem Fw {g:Nat} {cs:List Value} (h:Bk W g T cs):Mb W (some g) T:=by
 intro g' hg;injection hg with hg;subst hg;exact ⟨_,_,h⟩
theorem Mb.grown {r:Option Nat} {T':TypeId} (h:Mb W r T') (hg:W.grownBy W' row) (hk:Mb W row T) (hT:T'≠T):Mb W' r T':=fun g e=>by
 obtain⟨c,f,h1⟩:=h g e;exact ⟨c,f,(hg.block g (Array.getElem?_eq_some_iff.1 h1).1 (hk.ne (fun g' e'=>by injection e' with e';subst e';exact ⟨c,f,h1⟩) hT)).trans h1⟩
theorem C7w {v:Value} {ks:List (List UInt8)} (h:Hs W 0 B v ks) (ht:Mb W v.ownBlock 35) (hg:W.grownBy W' row) (hk:Mb W row T) (hT:35≠T):Hs W' 0 B v ks:=by
 obtain⟨h0,A,c,h1,h2,h3,h4⟩:=h;refine ⟨h0,A,c,h1,h2,h3,?_⟩;rcases h4 with h4 | ⟨g,o,rfl,hl,hb,hc⟩
 ·exact .inl h4
 ·refine .inr ⟨g,o,rfl,hl,hb,fun j u hj=>?_⟩;obtain⟨aA,fz,h5⟩:=ht g (by rw[h1];rfl);have h6:W'.heap[g]?=W.heap[g]?:=hg.block g (Array.getElem?_eq_some_iff.1 h5).1 (hk.ne (fun g' e'=>by injection e' with e';subst e';exact ⟨aA,fz,h5⟩) hT);exact (World.cell?_of_block h6).trans (hc j u hj)
end
section
variable {P : Program} {l : List Oper} {Q : Exit → Act → World → Prop} {S : World → Prop} {w : World}
def B0g (di dj dm:Tmp) (l:List Value) (ds:List Deferred) (x y z:Value):Act:=⟨(((l.set di x).set dj y).set dm z).toArray,ds⟩
theorem C2l {di dj dm:Tmp} {l:List Value} {ds:List Deferred}:(⟨l.toArray,ds⟩:Act)=B0g di dj dm l ds (l.getD di undef) (l.getD dj undef) (l.getD dm undef):=by
 have h:∀d:Nat,l.set d (l.getD d undef)=l:=fun d=>by
  apply List.ext_getElem?;intro n;rw[List.getElem?_set];split
  ·rename_i e
   subst e;split
   ·rename_i h;simp[h]
   ·rename_i h;rw[List.getElem?_eq_none (by omega)]
  ·rfl
 unfold B0g;rw[h,h,h]
end
end Go.Proofs.YtdfpoofbgjilgaaGreat
