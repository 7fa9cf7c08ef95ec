/- A part of the proof of DirBuilds. -/
import Derived.Test.YtlegpkdighoflaaGreatSbi
set_option linter.unusedVariables false
set_option linter.unusedSimpArgs false
set_option maxRecDepth 100000
set_option maxHeartbeats 40000000
namespace Go.Proofs.YtlegpkdighoflaaGreat
open Go Go.RowKit Sh
theorem B6l {a b:List UInt8} (h:Ca a b=true):Ca b a=false:=by
 cases h2:Ca b a with
 | false=>rfl
 | true=>exact absurd (M8.1 h2) (M8.1 h).asymm
section
theorem C0i:Tryz.prog.underlying 37=some (.struct (Q0 Tryz.prog 37)):=by kernel_rfl
theorem B7l:(Tryz.prog.info? 37).map (·.size)=some 2:=by kernel_rfl
theorem B6t:RL' 37 2:=LL' C0i B7l
theorem A9j:RS' 37 2:=SS' B7l
section
variable {w wr w' : World} {e : Int} {id key : List UInt8} {s : List En × Bool} {A : Option Addr} {c : Nat}
end
attribute [local go_sem ↓ high] B6t A9j
end
section
def C1e (ds:List Value):Prop:=∀d∈ds,∀x:UInt8,d≠v8 x
theorem E3b {w:World} {lo B g:Nat} {A:Option Addr} {T:TypeId} {cs ds:List Value} {x:UInt8} {b o:Nat} (hk:Bk w g T ds) (hd:C1e ds) (hc:w.cell? ⟨b,o,none⟩=some (v8 x)):b≠g:=fun e=>by
 subst e;unfold Bk at hk;unfold World.cell? at hc;rw[hk]at hc;have hc:ds.toArray[o]?=some (v8 x):=hc;exact hd _ (by have:=Array.mem_of_getElem? hc;simpa using this) x rfl
theorem D5i {w:World} {lo B g o:Nat} {A:Option Addr} {T:TypeId} {cs ds:List Value} {x:UInt8} (h:Rd w lo B A cs) (hx:cs[0]?=some (v8 x)) (hk:Bk w g T ds) (hd:C1e ds) (vs:List Value):Rd (C9 w ⟨g,o,none⟩ vs) lo B A cs:=by
 rcases h with h | ⟨b,of,h1,h2,h3,h4⟩
 ·exact .inl h
 ·have aA:=E3b (lo:=lo) (B:=B) (A:=A) (cs:=cs) hk hd (h4 0 _ hx);exact .inr ⟨b,of,h1,h2,h3,fun j u hj=>by rw[Hd aA];exact h4 j u hj⟩
theorem C8r {l:List UInt8} (h:0<l.length):∃x,(c8 l)[0]?=some (v8 x):=by
 cases l with
 | nil=>simp at h
 | cons a l=>exact ⟨a,rfl⟩
section
variable {w : World} {B g o : Nat} {T : TypeId} {ds vs : List Value}
theorem C5s {v:Value} {ks:List (List UInt8)} (h:Hs w 0 B v ks) (hn:0<ks.length) (hk:Bk w g T ds) (hd:C1e ds):Hs (C9 w ⟨g,o,none⟩ vs) 0 B v ks:=by
 obtain⟨h0,A,c,h1,h2,h3,h4⟩:=h;have hl:=Z1 h0;obtain⟨x,hx⟩:=C8r (l:=ks.flatten) (by rw[hl];omega);exact ⟨h0,A,c,h1,h2,h3,D5i h4 hx hk hd vs⟩
end
def BS (w:World) (B:Nat) (v:Value) (gs:List Bool):Prop:=(gs=[]∧v=.slice none 0 0)∨∃g tl c,v=.slice (some ⟨g,0,none⟩) gs.length c∧Bk w g 4 (gs.map Value.bool++tl)∧g<B
theorem BS.below {w w':World} {B:Nat} {v:Value} {gs:List Bool} (h:BS w B v gs) (hb:Below B w w'):BS w' B v gs:=by
 rcases h with h | ⟨g,tl,c,h1,h2,h3⟩
 ·exact .inl h
 ·exact .inr ⟨g,tl,c,h1,h2.below hb h3,h3⟩
theorem BS.more {w:World} {B B':Nat} {v:Value} {gs:List Bool} (h:BS w B v gs) (hb:B≤B'):BS w B' v gs:=by
 rcases h with h | ⟨g,tl,c,h1,h2,h3⟩
 ·exact .inl h
 ·exact .inr ⟨g,tl,c,h1,h2,by omega⟩
theorem A1d {α:Type} (p q:α→Bool):∀(l:List α),(∀x∈l,p x=true→q x=false)→(l.filter p).length+(l.filter q).length≤l.length
 | [],_=>by simp
 | x::l,h=>by
  have ih:=A1d p q l fun y hy=>h y (by simp[hy]);rw[List.filter_cons,List.filter_cons];cases hp:p x with
  | true=>
   rw[h x (by simp) hp];simp;omega
  | false=>
   cases hq:q x<;>simp<;>omega
theorem B9n {L:List En} {id key:List UInt8} (ok:OkE L) (hid:id.length=32):(Er id key L).length≤L.length+1:=by
 have h:=A1d (fun q:En=>Ca q.1 id) (fun q:En=>Ca id q.1) L fun q _ h=>B6l h;unfold Er;simp only[List.length_append,List.length_singleton];omega
theorem C8l {L':List En} (ok:OkE L') {id key:List UInt8} (hid:id.length=32) (hkey:key.length=32) {L:List En} {i:Nat} (h:∀x,(lookE L' x).length≤(lookE L x).length+i) (x:List UInt8):(lookE (Er id key L') x).length≤(lookE L x).length+(i+1):=by
 rw[Gt ok hid hkey x];by_cases hx:x=id
 ·rw[if_pos hx,hx];have:=h id;simp;omega
 ·rw[if_neg hx];have:=h x;omega
attribute [local go_sem ↓ high] B6t A9j
end
section
structure AV where
 who:Int
 ver:Int
 key:Int
 wrong:Bool
 cut:Bool
def AV.cells (a:AV):List Value:=[.int .i64 a.who,.int .i64 a.ver,.int .i64 a.key,.bool a.wrong,.bool a.cut]
def As (w:World) (B:Nat) (v:Value) (l:List AV):Prop:=∃A c,v=.slice A l.length c∧l.length≤c∧c≤9223372036854775807∧Rd w 0 B A (l.flatMap AV.cells)
theorem aat:∀ {l:List AV} {i:Nat} {a:AV},l[i]?=some a→((l.flatMap AV.cells).drop (i*5)).take 5=a.cells
 | [],i,a,h=>by simp at h
 | x::l,0,a,h=>by
  obtain rfl:x=a:=by simpa using h
  rfl
 | x::l,i+1,a,h=>by
  have:=aat (l:=l) (i:=i) (a:=a) (by simpa using h);rw[List.flatMap_cons,List.drop_append,List.drop_eq_nil_of_le (by simp[AV.cells];omega)];have e:(i+1)*5-x.cells.length=i*5:=by simp[AV.cells];omega
  rw[e,List.nil_append,this]
theorem As.at_ {w:World} {B:Nat} {A:Option Addr} {n c:Nat} {l:List AV} (h:As w B (.slice A n c) l) {i:Nat} {a:AV} (ha:l[i]?=some a):∃g o,A=some ⟨g,o,none⟩∧g<B∧E5 w ⟨g,o+i*5,none⟩ 5=some a.cells:=by
 obtain⟨A',c',h1,h2,h3,h4⟩:=h;injection h1 with h1;subst h1;rcases h4 with h4 | ⟨g,o,h5,h6,h7,h8⟩
 ·have:=aat ha;rw[h4]at this;simp[AV.cells]at this
 ·have aA:=aat ha;refine ⟨g,o,h5,h7,Eo.2 ⟨rfl,fun j u hj=>?_⟩⟩;have aB:j<5:=(List.getElem?_eq_some_iff.1 hj).1;rw[Nat.add_assoc];refine h8 _ _ ?_;rw[←hj,←aA];simp only[List.getElem?_take,List.getElem?_drop,if_pos aB]
theorem B5p:Tryz.prog.underlying 80=some (.struct (Q0 Tryz.prog 80)):=by kernel_rfl
theorem B2m:(Tryz.prog.info? 80).map (·.size)=some 5:=by kernel_rfl
theorem C4q:((Tryz.prog.info? 80).bind (·.zero))=some (.agg (AV.cells ⟨0,0,0,false,false⟩).toArray):=by kernel_rfl
section
variable (w : World) (ρ : Operand → Value) (dst : Option Tmp) (ty : TypeId) (pos : String) (after : Array Edge) (guard : Option (Nat × Bool))
theorem C7w:RL' 80 5:=LL' B5p B2m
theorem B9q:RS' 80 5:=SS' B2m
end
theorem B1r (w:World) (raw:Result Next) (a:Addr) (p q r:Int) (b c:Bool) (h:E8 w a 5=true):Bq 5 w raw (.pointer (some a)) (.agg #[.int .i64 p,.int .i64 q,.int .i64 r,.bool b,.bool c])=.ok .skip (C9 w a [.int .i64 p,.int .i64 q,.int .i64 r,.bool b,.bool c]):=by
 have e:Value.agg #[.int .i64 p,.int .i64 q,.int .i64 r,.bool b,.bool c]=Value.agg ([.int .i64 p,.int .i64 q,.int .i64 r,.bool b,.bool c]:List Value).toArray:=rfl;rw[e,A2r,h];simp[Value.oneCell']
theorem C3a (x:UInt64):IntKind.i64.wrap (J0 (x % 4))=J0 (x % 4):=IntWalk.i64_in _ (by
 unfold J0;have h:=UInt64.toNat_mod x 4;have h4:(4:UInt64).toNat=4:=rfl;rw[h,h4];omega)
def B8o (v:Int):UInt8:=UInt8.ofNat (v % 256).toNat
theorem Zl (v:Int):IntKind.u8.wrap v=n8 (B8o v):=by
 unfold n8 B8o;rw[UInt8.toNat_ofNat'];simp only[IntKind.wrap,IntKind.bits,IntKind.signed,Bool.false_and,Bool.false_eq_true,if_false];omega
def RI (v:Value):Option (DataW Value×List MemPlace):=match v with | .int .i64 _=>some (.held v,[]) | _=>none
theorem D7c {v:Value} {y:DataW Value×List MemPlace} (h:RI v=some y):∃x,v=.int .i64 x:=by
 unfold RI at h;split at h
 ·exact ⟨_,rfl⟩
 ·cases h
theorem Sz:Maps.Keyed Tryz.prog 3:=Maps.int_keyed Tryz.underlying3
theorem B2w (x:UInt64):∃kl,keyOf Tryz.prog 3 (.int .i64 (J0 (x % 4)))=some kl:=by
 have h:(x % 4).toNat<4:=by rw[UInt64.toNat_mod];exact Nat.mod_lt _ (by decide)
 unfold J0;match (x % 4).toNat,h with
 | 0,_=>exact ⟨.int .i64 0,by kernel_rfl⟩
 | 1,_=>exact ⟨.int .i64 1,by kernel_rfl⟩
 | 2,_=>exact ⟨.int .i64 2,by kernel_rfl⟩
 | 3,_=>exact ⟨.int .i64 3,by kernel_rfl⟩
def MapC (w:World) (b n:Nat):Prop:=∃D:DataW Value,w.ownsMap Tryz.prog 3 RI b n D
theorem MapC.made (w:World):MapC (w.alloc (.map #[] 0)) w.heap.size 0:=⟨.map [],World.ownsMap_made _ _ _ _⟩
theorem MapC.look {w:World} {b n:Nat} (h:MapC w b n) (x:UInt64):∃y,(Instr.lookup 59 (.map (some b)) (.int .i64 (J0 (x % 4))) false).run Tryz.prog w=.ok (.int .i64 y) w:=by
 obtain⟨D,hD⟩:=h;obtain⟨kl,hk⟩:=B2w x;obtain⟨v,ps,h1,h2⟩:=hD.lookup Sz Tryz.underlying59 (z:=.int .i64 0) (by kernel_rfl) (zd:=.held (.int .i64 0)) (zp:=[]) rfl hk;obtain⟨y,rfl⟩:=D7c h2;exact ⟨y,h1⟩
theorem MapC.row {w:World} {b n:Nat} (h:MapC w b n):∀r,some b=some r→∃o:Obj,w.heap[r]?=some o∧o.isCells=false:=by
 obtain⟨D,⟨es,aA,hb,_⟩⟩:=h;intro r e;injection e with e;subst e;exact ⟨_,hb,rfl⟩
theorem MapC.kept {w w':World} {b n:Nat} {row:Option Nat} (h:MapC w b n) (hg:w.grownBy w' row) (hne:some b≠row):MapC w' b n:=by
 obtain⟨D,hD⟩:=h;exact ⟨D,hD.kept hg hne⟩
theorem MapC.below {w w':World} {b n:Nat} (h:MapC w b n) (hb:Below w.heap.size w w'):MapC w' b n:=
 h.kept (row:=none) ⟨hb.os,hb.tape,hb.output,hb.size,fun k hk _=>hb.block k (by omega)⟩ (by simp)
theorem MapC.own {w w':World} {b n base sz k:Nat} {T:TypeId} {v:Value} {xs:List Value} (h:MapC w b n) (ho:w.ownsRow base T sz v k xs) (hg:w.grownBy w' v.ownBlock):MapC w' b n:=by
 refine h.kept hg fun e=>?_;obtain⟨o,h1,h2⟩:=h.row b rfl;rcases ho.2 with ⟨hv,_⟩ | ⟨g,cap,cur,hv,_,hh,_⟩
 ·rw[hv]at e;cases e
 ·rw[hv]at e;injection e with e;subst e;rw[hh]at h1;injection h1 with h1;subst h1;cases h2
theorem Bh {w:World} {g base sz n:Nat} {T T':TypeId} {cs xs:List Value} {v:Value} (h:Bk w g T cs) (ho:w.ownsRow base T' sz v n xs) (hT:T≠T'):some g≠v.ownBlock:=fun e=>by
 rcases ho.2 with ⟨hv,_⟩ | ⟨g',cap,cur,hv,_,hh,_⟩
 ·rw[hv]at e;cases e
 ·rw[hv]at e;injection e with e;subst e;unfold Bk at h;rw[h]at hh;injection hh with hh;injection hh with _ h2;exact hT h2
def OwnU (w:World) (base:Nat) (v:Value) (us:List UV):Prop:=(∀u∈us,u.Ok)∧w.ownsRow base 63 129 v us.length (us.flatMap Aw)
def OwnB (w:World) (base:Nat) (v:Value) (gs:List Bool):Prop:=w.ownsRow base 4 1 v gs.length (gs.map Value.bool)
theorem A7d {w:World} {base sz n:Nat} {T:TypeId} {v:Value} {xs:List Value} (h:w.ownsRow base T sz v n xs):(v=.slice none 0 0∧n=0)∨∃g tl c,v=.slice (some ⟨g,0,none⟩) n c∧Bk w g T (xs++tl)∧g<w.heap.size:=by
 rcases h.2 with h1 | ⟨g,cap,cur,hv,hg,hh,h1,h2,h3,h4⟩
 ·exact .inl h1
 ·refine .inr ⟨g,cur.toList.drop (n*sz),cap,hv,?_,(Array.getElem?_eq_some_iff.1 hh).1⟩;unfold Bk;rw[hh,←h4,List.take_append_drop]
theorem OwnU.us {w:World} {base:Nat} {v:Value} {us:List UV} (h:OwnU w base v us):US w w.heap.size v us:=by
 rcases A7d h.2 with ⟨h1,h2⟩ | ⟨g,tl,c,h1,h2,h3⟩
 ·exact .inl ⟨List.eq_nil_of_length_eq_zero h2,h1⟩
 ·exact .inr ⟨g,tl,c,h1,⟨h.1,h2⟩,h3⟩
theorem OwnB.bs {w:World} {base:Nat} {v:Value} {gs:List Bool} (h:OwnB w base v gs):BS w w.heap.size v gs:=by
 rcases A7d h with ⟨h1,h2⟩ | ⟨g,tl,c,h1,h2,h3⟩
 ·exact .inl ⟨List.eq_nil_of_length_eq_zero h2,h1⟩
 ·exact .inr ⟨g,tl,c,h1,h2,h3⟩
def Lot {α:Type} (F:Value→α→Prop):List Value→List α→Prop
 | [],[]=>True
 | v::vs,x::xs=>F v x∧Lot F vs xs
 | _,_=>False
theorem Lot.mono {α:Type} {F G:Value→α→Prop} (h:∀v x,F v x→G v x):∀ {vs:List Value} {xs:List α},Lot F vs xs→Lot G vs xs
 | [],[],_=>trivial
 | _::_,_::_,hh=>⟨h _ _ hh.1,Lot.mono h hh.2⟩
 | [],_::_,hh=>hh.elim
 | _::_,[],hh=>hh.elim
theorem Lot.snoc {α:Type} {F:Value→α→Prop} {v:Value} {x:α} (h:F v x):∀ {vs:List Value} {xs:List α},Lot F vs xs→Lot F (vs++[v]) (xs++[x])
 | [],[],_=>⟨h,trivial⟩
 | _::_,_::_,hh=>⟨hh.1,Lot.snoc h hh.2⟩
 | [],_::_,hh=>hh.elim
 | _::_,[],hh=>hh.elim
theorem Lot.len {α:Type} {F:Value→α→Prop}:∀ {vs:List Value} {xs:List α},Lot F vs xs→vs.length=xs.length
 | [],[],_=>rfl
 | _::_,_::_,hh=>by simp[Lot.len hh.2]
 | [],_::_,hh=>hh.elim
 | _::_,[],hh=>hh.elim
theorem Lot.at_ {α:Type} {F:Value→α→Prop}:∀ {vs:List Value} {xs:List α},Lot F vs xs→∀ {i:Nat} {x:α},xs[i]?=some x→∃v,vs[i]?=some v∧F v x
 | [],[],_,i,x,h=>by simp at h
 | v::vs,y::xs,hh,0,x,h=>by simp at h;subst h;exact ⟨v,rfl,hh.1⟩
 | v::vs,y::xs,hh,i+1,x,h=>by
  obtain⟨u,h1,h2⟩:=Lot.at_ hh.2 (i:=i) (x:=x) (by simpa using h);exact ⟨u,by simpa using h1,h2⟩
 | [],_::_,hh,_,_,_=>hh.elim
 | _::_,[],hh,_,_,_=>hh.elim
theorem US.grown {w w':World} {B:Nat} {v:Value} {us:List UV} (h:US w B v us) {base sz n:Nat} {T:TypeId} {u:Value} {xs:List Value} (ho:w.ownsRow base T sz u n xs) (hT:63≠T) (hg:w.grownBy w' u.ownBlock):US w' B v us:=by
 rcases h with h | ⟨g,tl,c,h1,h2,h3⟩
 ·exact .inl h
 ·exact .inr ⟨g,tl,c,h1,⟨h2.1,h2.2.grown hg (Bh h2.2 ho hT)⟩,h3⟩
theorem BS.grown {w w':World} {B:Nat} {v:Value} {us:List Bool} (h:BS w B v us) {base sz n:Nat} {T:TypeId} {u:Value} {xs:List Value} (ho:w.ownsRow base T sz u n xs) (hT:4≠T) (hg:w.grownBy w' u.ownBlock):BS w' B v us:=by
 rcases h with h | ⟨g,tl,c,h1,h2,h3⟩
 ·exact .inl h
 ·exact .inr ⟨g,tl,c,h1,h2.grown hg (Bh h2 ho hT),h3⟩
def Pub (u:UV):Prop:=∃x:UInt64,u.id=U7 (Ig (x % 4).toUInt8 77)
structure BaI (w wr : World) (M b m : Nat) (ov gv uv bv : Value) (os gs : List Value) (bs : List (List UV)) (us : List UV) : Prop where
 out:wr.ownsRow w.heap.size 39 1 ov os.length os
 good:wr.ownsRow w.heap.size 41 1 gv gs.length gs
 lo:Lot (US wr M) os bs
 lg:Lot (BS wr M) gs (bs.map (·.map signedB))
 uo:OwnU wr M uv us
 bo:OwnB wr M bv (us.map signedB)
 mc:MapC wr b m
 hM:w.heap.size≤M
 hW:M≤wr.heap.size
 below:Below w.heap.size w wr
 pub:∀l∈us::bs,∀u∈l,Pub u
theorem BaI.up {w wr w':World} {M b m:Nat} {ov gv uv bv:Value} {os gs:List Value} {bs:List (List UV)} {us:List UV} (h:BaI w wr M b m ov gv uv bv os gs bs us) (hb:Below wr.heap.size wr w'):BaI w w' M b m ov gv uv bv os gs bs us:=
 ⟨Cv h.out hb (Nat.le_refl _),Cv h.good hb (Nat.le_refl _),h.lo.mono fun _ _ x=>x.below (hb.mono h.hW),h.lg.mono fun _ _ x=>x.below (hb.mono h.hW),⟨h.uo.1,Cv h.uo.2 hb (Nat.le_refl _)⟩,Cv h.bo hb (Nat.le_refl _),h.mc.below hb,h.hM,Nat.le_trans h.hW hb.size,C0 h.below hb h.below.size,h.pub⟩
theorem Td:(Tryz.prog.info? 63).map (fun i=>(i.zero,i.size,i.bytes))=some (some (Uc (Rg 129)),129,136):=by kernel_rfl
theorem Wp:(Tryz.prog.info? 4).map (fun i=>(i.zero,i.size,i.bytes))=some (some (.bool false),1,1):=by kernel_rfl
theorem Zq:(Tryz.prog.info? 39).map (fun i=>(i.zero,i.size,i.bytes))=some (some (.slice none 0 0),1,24):=by kernel_rfl
theorem Zz:(Tryz.prog.info? 41).map (fun i=>(i.zero,i.size,i.bytes))=some (some (.slice none 0 0),1,24):=by kernel_rfl
@[go_sem ↓ high] theorem F1e (w : World) (ρ : Operand → Value) (dst : Option Tmp) (ty : TypeId) (pos : String) (after : Array Edge) (guard : Option (Nat × Bool)) (x : Operand) :
 (execOp ρ { dst,op:=.buildSlice 39 1 #[(0,x)],type:=ty,pos,after,guard }).run Tryz.prog w=Lj 129 63 w (M6 Tryz.prog ρ { dst,op:=.buildSlice 39 1 #[(0,x)],type:=ty,pos,after,guard } w) (ρ x):=
 Wm w ρ dst ty pos after guard 39 63 129 136 (Uc (Rg 129)) x Tryz.underlying39 Td (by simp[Uc,Aw,Rg,Value.cells]) (by decide) (by decide)
@[go_sem] theorem E5g (n : Nat) (e : TypeId) (w : World) (raw : Result Next) (u : UV) (h : u.length = n) : Lj n e w raw (Uc u) = .ok (.value (.slice (some ⟨w.heap.size, 0, none⟩) 1 1)) (w.alloc (.cells (Aw u).toArray e)) := by
 unfold Uc;rw[B9c,if_pos (by rw[List.size_toArray];exact h)]
theorem UV.sigAt {w:World} {g:Nat} {t:TypeId} {u:UV} (K:Bk w g t (Aw u)) (h:u.Ok) {j:Nat} {x:UInt8} (hx:u.sig[j]?=some x):w.cell? ⟨g,65+j,none⟩=some (.int .u8 (n8 x)):=by
 refine K.at_ ?_;have e:Aw u=(c8 u.id++[.int .i64 u.ver]++c8 u.key)++c8 u.sig:=by simp[Aw]
 rw[e,List.getElem?_append_right (by simp[h.id,h.key])];have e2:65+j-(c8 u.id++[Value.int .i64 u.ver]++c8 u.key).length=j:=by simp[h.id,h.key]
 rw[e2];unfold c8;rw[List.getElem?_map,hx];rfl
theorem D2y (x:UInt8):bits BinOp.xor IntKind.u8 (n8 x) 2=n8 (x ^^^ 2):=by
 have h:∀n:Nat,n<256→bits BinOp.xor IntKind.u8 (n:Int) 2=((n ^^^ 2:Nat):Int):=by decide +kernel
 unfold n8;rw[UInt8.toNat_xor];exact h x.toNat x.toNat_lt
def A2n (u:UV) (x:UInt8):UV:=⟨u.id,u.ver,u.key,u.sig.set 1 x⟩
theorem B2t {u:UV} (h:u.Ok) (x:UInt8):(A2n u x).Ok:=⟨h.id,h.key,by simp[A2n,h.sig]⟩
theorem Bk.turn {w:World} {g:Nat} {t:TypeId} {u:UV} (K:Bk w g t (Aw u)) (h:u.Ok) (x:UInt8):Bk (w.setCell ⟨g,66,none⟩ (.int .u8 (n8 x))) g t (Aw (A2n u x)):=by
 have h1:=K.set_ 66 (.int .u8 (n8 x));have e:(Aw u).set 66 (.int .u8 (n8 x))=Aw (A2n u x):=by
  have e1:Aw u=(c8 u.id++[.int .i64 u.ver]++c8 u.key)++c8 u.sig:=by simp[Aw]
  have e2:Aw (A2n u x)=(c8 u.id++[.int .i64 u.ver]++c8 u.key)++c8 (u.sig.set 1 x):=by simp[Aw,A2n]
  rw[e1,e2,List.set_append_right _ _ (by simp[h.id,h.key]),←Ia];simp[h.id,h.key]
 rw[e]at h1;exact h1
end
section
section
variable {w wr : World} {M b m : Nat} {ov gv uv bv : Value} {os gs : List Value} {bs : List (List UV)} {us : List UV}
theorem Ym {base sz k:Nat} {T:TypeId} {v:Value} {xs:List Value} (ho:wr.ownsRow base T sz v k xs) (hr:∀r,some b=some r→∃o:Obj,wr.heap[r]?=some o∧o.isCells=false):v.ownBlock=none∨v.ownBlock≠some b:=by
 obtain⟨o,h1,h2⟩:=hr b rfl;rcases ho.2 with ⟨hv,_⟩ | ⟨g,cap,cur,hv,_,hh,_⟩
 ·left;rw[hv];rfl
 ·right
  rw[hv];intro e;injection e with e;subst e;rw[hh]at h1;injection h1 with h1;subst h1;cases h2
theorem US.own {w':World} {B:Nat} {v:Value} {us:List UV} (h:US wr B v us) (hg:wr.grownBy w' (some b)) (hr:∀r,some b=some r→∃o:Obj,wr.heap[r]?=some o∧o.isCells=false):US w' B v us:=by
 rcases h with h | ⟨g,tl,c,h1,h2,h3⟩
 ·exact .inl h
 ·exact .inr ⟨g,tl,c,h1,⟨h2.1,Y9 h2.2 hg hr⟩,h3⟩
theorem BS.own {w':World} {B:Nat} {v:Value} {us:List Bool} (h:BS wr B v us) (hg:wr.grownBy w' (some b)) (hr:∀r,some b=some r→∃o:Obj,wr.heap[r]?=some o∧o.isCells=false):BS w' B v us:=by
 rcases h with h | ⟨g,tl,c,h1,h2,h3⟩
 ·exact .inl h
 ·exact .inr ⟨g,tl,c,h1,Y9 h2 hg hr,h3⟩
theorem BaI.map (h:BaI w wr M b m ov gv uv bv os gs bs us) (hb:w.heap.size≤b) {w6:World} {D:DataW Value} (ho:w6.ownsMap Tryz.prog 3 RI b (m+1) D) (hg:wr.grownBy w6 (some b)):BaI w w6 M b (m+1) ov gv uv bv os gs bs us:=
 ⟨World.ownsRow.kept h.out hg (Ym h.out h.mc.row),World.ownsRow.kept h.good hg (Ym h.good h.mc.row),h.lo.mono fun _ _ x=>x.own hg h.mc.row,h.lg.mono fun _ _ x=>x.own hg h.mc.row,
  ⟨h.uo.1,World.ownsRow.kept h.uo.2 hg (Ym h.uo.2 h.mc.row)⟩,World.ownsRow.kept h.bo hg (Ym h.bo h.mc.row),⟨D,ho⟩,h.hM,Nat.le_trans h.hW hg.size,h.below.grown hg h.below.size (fun k e=>by cases e;exact hb),h.pub⟩
theorem BaI.app (h:BaI w wr M b m ov gv uv bv os gs bs us) {u:UV} {g:Bool} (hu:u.Ok) (hpu:Pub u) (hgb:signedB u=g) {w7 w8:World} {A7 A8:Option Addr} {c7 c8:Nat}
 (h7:w7.ownsRow M 63 129 (.slice A7 (us.length+1) c7) (us.length+1) (us.flatMap Aw++Aw u)) (b7:Below M wr w7) (g7:wr.grownBy w7 uv.ownBlock)
 (h8:w8.ownsRow M 4 1 (.slice A8 (us.length+1) c8) (us.length+1) ((us.map signedB).map Value.bool++[.bool g])) (b8:Below M w7 w8) (g8:w7.grownBy w8 bv.ownBlock) :
 BaI w w8 M b m ov gv (.slice A7 (us.length+1) c7) (.slice A8 (us.length+1) c8) os gs bs (us++[u]):=by
 have aC:w7.ownsRow M 4 1 bv (us.map signedB).length ((us.map signedB).map Value.bool):=World.ownsRow.kept h.bo g7 (U5 h.bo h.uo.2 (by decide));have aB:=World.ownsRow.kept h.out g7 (U5 h.out h.uo.2 (by decide));have aA:=World.ownsRow.kept h.good g7 (U5 h.good h.uo.2 (by decide));refine ⟨World.ownsRow.kept aB g8 (U5 aB aC (by decide)),World.ownsRow.kept aA g8 (U5 aA aC (by decide)),h.lo.mono fun _ _ x=>(x.below b7).below b8,h.lg.mono fun _ _ x=>(x.below b7).below b8,⟨?_,?_⟩,?_,(h.mc.own h.uo.2 g7).own aC g8,h.hM,Nat.le_trans h.hW (Nat.le_trans b7.size b8.size),h.below.trans ((b7.trans b8).mono h.hM),?_⟩
 ·intro x hx;rcases List.mem_append.1 hx with hx | hx
  ·exact h.uo.1 x hx
  ·simp at hx;subst hx;exact hu
 ·have:=World.ownsRow.kept h7 g8 (U5 h7 aC (by decide));simpa using this
 ·unfold OwnB;subst hgb;simpa using h8
 ·intro l hl x hx;rcases List.mem_cons.1 hl with rfl | hl
  ·rcases List.mem_append.1 hx with hx | hx
   ·exact h.pub us (by simp) x hx
   ·simp at hx;subst hx;exact hpu
  ·exact h.pub l (by simp[hl]) x hx
theorem BaI.cut (h:BaI w wr M b m ov gv uv bv os gs bs us) {w9 w10:World} {A9 A10:Option Addr} {c9 c10:Nat}
 (h9:w9.ownsRow w.heap.size 39 1 (.slice A9 (os.length+1) c9) (os.length+1) (os++[uv])) (b9:Below w.heap.size wr w9) (g9:wr.grownBy w9 ov.ownBlock)
 (h10:w10.ownsRow w.heap.size 41 1 (.slice A10 (gs.length+1) c10) (gs.length+1) (gs++[bv])) (b10:Below w.heap.size w9 w10) (g10:w9.grownBy w10 gv.ownBlock) :
 BaI w w10 w10.heap.size b m (.slice A9 (os.length+1) c9) (.slice A10 (gs.length+1) c10) (.slice none 0 0) (.slice none 0 0) (os++[uv]) (gs++[bv]) (bs++[us]) []:=by
 have aA:=World.ownsRow.kept h.good g9 (U5 h.good h.out (by decide));have hs:M≤w10.heap.size:=Nat.le_trans h.hW (Nat.le_trans b9.size b10.size);have aB:wr.heap.size≤w10.heap.size:=Nat.le_trans b9.size b10.size;have fu:∀ {B:Nat} {v:Value} {us:List UV},US wr B v us→US w10 B v us:=fun x=>(x.grown h.out (by decide) g9).grown aA (by decide) g10;have fb:∀ {B:Nat} {v:Value} {us:List Bool},BS wr B v us→BS w10 B v us:=fun x=>(x.grown h.out (by decide) g9).grown aA (by decide) g10;refine ⟨?_,?_,Lot.snoc ((fu h.uo.us).more aB) (h.lo.mono fun _ _ x=>(fu x).more hs),?_,⟨fun u hu=>(by cases hu),World.ownsRow_nil _ _ _ _⟩,World.ownsRow_nil _ _ _ _,(h.mc.own h.out g9).own aA g10,Nat.le_trans h.hM hs,Nat.le_refl _,(h.below.trans b9).trans b10,?_⟩
 ·have:=World.ownsRow.kept h9 g10 (U5 h9 aA (by decide));simpa using this
 ·simpa using h10
 ·rw[List.map_append,List.map_singleton];exact Lot.snoc ((fb h.bo.bs).more aB) (h.lg.mono fun _ _ x=>(fb x).more hs)
 ·intro l hl x hx;rcases List.mem_cons.1 hl with rfl | hl
  ·cases hx
  ·rcases List.mem_append.1 hl with hl | hl
   ·exact h.pub l (by simp[hl]) x hx
   ·simp at hl;subst hl;exact h.pub _ (by simp) x hx
end
def BatchIs (w:World) (ov gv:Value) (bs:List (List UV)):Prop:=∃os gs:List Value,w.ownsRow 0 39 1 ov os.length os∧w.ownsRow 0 41 1 gv gs.length gs∧Lot (US w w.heap.size) os bs∧Lot (BS w w.heap.size) gs (bs.map (·.map signedB))
theorem C2b:RA' 80 #[.int .i64 0,.int .i64 0,.int .i64 0,.bool false,.bool false]:=fun w ρ dst ty pos after guard=>N8 w ρ dst ty pos after guard 80 (.agg (AV.cells ⟨0,0,0,false,false⟩).toArray) C4q
def C7z (w:World) (raw:Result Next) (x y:Value):Result Next:=Bq 5 w raw x y
theorem B3s (w:World) (ρ:Operand→Value) (dst:Option Tmp) (ty:TypeId) (pos:String) (after:Array Edge) (guard:Option (Nat×Bool)) (x y:Operand) :
 (execOp ρ { dst,op:=.store 80 x y,type:=ty,pos,after,guard }).run Tryz.prog w=C7z w (M6 Tryz.prog ρ { dst,op:=.store 80 x y,type:=ty,pos,after,guard } w) (ρ x) (ρ y):=B9q w ρ dst ty pos after guard x y
theorem BaI.made {w wr:World} {M b m:Nat} {ov gv uv bv:Value} {os gs:List Value} {bs:List (List UV)} {us:List UV} (h:BaI w wr M b m ov gv uv bv os gs bs us):BatchIs wr ov gv bs:=
 ⟨os,gs,Vj h.out (Nat.zero_le _),Vj h.good (Nat.zero_le _),h.lo.mono fun _ _ x=>x.more h.hW,h.lg.mono fun _ _ x=>x.more h.hW⟩
attribute [local go_sem ↓ high] C7w B3s C2b
theorem B1z (v:Value) (l:List AV) (w:World) (hv:As w w.heap.size v l):Calls Tryz.prog 8 #[v] w fun x w'=>∃ov gv bs,x=.returned (.tuple #[ov,gv])∧BatchIs w' ov gv bs∧bs.length≤13∧(∀b∈bs,b.length≤12)∧(∀b∈bs,∀u∈b,Pub u)∧Below w.heap.size w w':=by
 have HA:=Lib.hid hv;obtain⟨A,c,rfl,dC,dN,_⟩:=hv;obtain⟨n,hn⟩:∃n,n=l.length:=⟨_,rfl⟩;have HN:=Lib.hid hn;rw[←hn]at HA dC ⊢;clear hn;obtain⟨W0,bX⟩:∃x,x=w.alloc (.map #[] 0):=⟨_,rfl⟩;have B0:Below w.heap.size w W0:=by rw[bX];exact (Below.refl _ _).alloc (Nat.le_refl _) _
 have I0:BaI w W0 W0.heap.size w.heap.size 0 (.slice none 0 0) (.slice none 0 0) (.slice none 0 0) (.slice none 0 0) [] [] [] []:=
  ⟨World.ownsRow_nil _ _ _ _,World.ownsRow_nil _ _ _ _,trivial,trivial,⟨fun u h=>(by cases h),World.ownsRow_nil _ _ _ _⟩,World.ownsRow_nil _ _ _ _,by rw[bX];exact MapC.made w,by rw[bX];simp,Nat.le_refl _,B0,fun l hl u hu=>by simp at hl;subst hl;cases hu⟩
 have dD:=@run_makeMap Tryz.prog;have bU:(Uc (Rg 129)).cells.size=129:=by simp[Uc,Aw,Rg,Value.cells]
 have aK:∀ {b:Bool},∀u∈[Value.bool b],u.oneCell'=true:=fun {b} u hu=>by simp at hu;subst hu;rfl
 have aD:∀ {A:Option Addr} {n c:Nat},∀u∈[Value.slice A n c],u.oneCell'=true:=fun {A n c} u hu=>by simp at hu;subst hu;rfl
 go_enter Tryz.func8,Tryz.ntmps8;go_wp2_with fail;rw[←bX];clear bX B0 dD;go_loopw [4,5,6,7,18] (fun ov gv uv bv x wr=>∃(i M m:Nat) (os gs:List Value) (bs:List (List UV)) (us:List UV),i≤n∧i≤12∧x=.int .i64 (i:Int)∧BaI w wr M w.heap.size m ov gv uv bv os gs bs us∧m≤i∧us.length≤i∧bs.length≤i∧∀b∈bs,b.length≤12) (fun _ _ _ _ x _=>n-(intOf x).toNat)
 case atStart=>exact ⟨0,_,0,[],[],[],[],by omega,by omega,rfl,I0,Nat.le_refl _,Nat.le_refl _,Nat.le_refl _,fun b h=>(by cases h)⟩
 case round=>
  clear I0;obtain⟨i,M,m,os,gs,bs,us,hi,dF,rfl,I,dO,dQ,dS,bN⟩:=hrel;by_cases hlt:i<n
  ·have hd:decide ((i:Int)<(n:Int))=true:=decide_eq_true (by omega);have dG:decide (i<n)=true:=decide_eq_true hlt;obtain⟨a,ha⟩:∃a,l[i]?=some a:=⟨_,List.getElem?_eq_getElem (by rw[←HN.out];exact hlt)⟩;obtain⟨g,o,rfl,hg,bY⟩:=HA.out.at_ ha;have dT:=(Bw (a:=⟨g,o+i*5,none⟩) I.below hg).trans bY;have k0:Bk (wr.alloc (Obj.cells #[.int .i64 0,.int .i64 0,.int .i64 0,.bool false,.bool false] 80)) wr.heap.size 80 [.int .i64 0,.int .i64 0,.int .i64 0,.bool false,.bool false]:=Bk.new wr _ _;have bC:E8 (wr.alloc (Obj.cells #[.int .i64 0,.int .i64 0,.int .i64 0,.bool false,.bool false] 80)) ⟨wr.heap.size,0,none⟩ 5=true:=k0.can (by simp);obtain⟨W,hW⟩:∃x,x=C9 (wr.alloc (Obj.cells #[.int .i64 0,.int .i64 0,.int .i64 0,.bool false,.bool false] 80)) ⟨wr.heap.size,0,none⟩ [.int .i64 a.who,.int .i64 a.ver,.int .i64 a.key,.bool a.wrong,.bool a.cut]:=⟨_,rfl⟩;have kA:Bk W wr.heap.size 80 [.int .i64 a.who,.int .i64 a.ver,.int .i64 a.key,.bool a.wrong,.bool a.cut]:=by rw[hW];exact k0.puts (by simp)
   have IW:=I.up (w':=W) (by rw[hW];exact C1 ((Below.refl _ _).alloc (Nat.le_refl _) _) (Nat.le_refl _) _);clear ha bY k0 I;have a0:=kA.at_ (i:=0) rfl;have a1:=kA.at_ (i:=1) rfl;have a2:=kA.at_ (i:=2) rfl;have dI:∀raw,C7z (wr.alloc (Obj.cells #[.int .i64 0,.int .i64 0,.int .i64 0,.bool false,.bool false] 80)) raw (.pointer (some ⟨wr.heap.size,0,none⟩)) (.agg a.cells.toArray)=.ok .skip W:=fun raw=>by unfold C7z;rw[hW];exact B1r _ _ _ _ _ _ _ _ bC
   clear hW bC;by_cases h12:12≤i
   ·have cO:decide ((12:Int)≤(i:Int))=true:=decide_eq_true (by omega);have cP:decide (12≤i)=true:=decide_eq_true h12;have II:=IW;have bQ:=II.lo.len;have aU:gs.length=bs.length:=by have:=II.lg.len;simpa using this
    obtain⟨Au,cu,rfl,_,_⟩:=Bm II.uo.2;obtain⟨Ab,cb,bZ,_,_⟩:=Bm II.bo;rw[List.length_map]at bZ;subst bZ;go_wp2_with (first | (at_builtin;refine Ci 25 39 (.slice none 0 0) 1 24 Tryz.underlying25 Zq rfl (by decide) (by decide) rfl _ _ rfl rfl II.out [.slice Au us.length cu] rfl aD _ rfl rfl rfl (by omega) II.below.size ?_;intro A9 c9 w9 cH cI aF aW aX bJ;have aG:=World.ownsRow.kept II.good aX (U5 II.good II.out (by decide));have aL:=Nat.le_trans II.below.size aW.size) | (at_builtin;refine Ci 26 41 (.slice none 0 0) 1 24 Tryz.underlying26 Zz rfl (by decide) (by decide) rfl _ _ rfl rfl aG [.slice Ab us.length cb] rfl aD _ rfl rfl rfl (by omega) aL ?_;intro cJ cK bR bK bL aB aM aN aY));have aO:=II.cut aF aW aX aB aM aN;rw[bQ,aU]at aO;exact bodyPost_ret (P9 rfl (M5.tmp rfl) (M5.tmp rfl)) rfl ⟨_,_,bs++[us],rfl,aO.made,by simp;omega,fun b hb=>by
     rcases List.mem_append.1 hb with hb | hb
     ·exact bN b hb
     ·simp at hb;subst hb;omega,fun b hb=>aO.pub b (List.mem_cons_of_mem _ hb),aO.below⟩
   ·have cO:decide ((12:Int)≤(i:Int))=false:=decide_eq_false (by omega);have cP:decide (12≤i)=false:=decide_eq_false (by omega);have dJ:=A4a a.who;have dK:=Zl a.key;have dU:=Zl (i:Int);have dW:(J0 (Fv a.who)).tmod 4=J0 (Fv a.who % 4):=by unfold J0;rw[UInt64.toNat_mod];rfl
    have dX:=C3a (Fv a.who);have dY:wrap64 (J0 (Fv a.who % 4))=J0 (Fv a.who % 4):=by have h:=UInt64.toNat_mod (Fv a.who) 4;have h4:(4:UInt64).toNat=4:=rfl;unfold wrap64 J0;rw[h,h4];omega
    obtain⟨y,cB⟩:=IW.mc.look (Fv a.who);cases hv0:(a.ver==0);case' false=>
     go_wp2_with fail;obtain⟨V,hV⟩:∃V,V=a.ver:=⟨_,rfl⟩
    case' true=>
     go_wp2_with fail;obtain⟨V,hV⟩:∃V,V=wrap64 (y+1):=⟨_,rfl⟩
    all_goals
     rw[←hV];clear hV
    all_goals
     refine (B1l _ _ _ (Na _ _) (Na _ _) W).mono ?_;rintro x w2 ⟨rfl,b2⟩;have I2:=IW.up b2;have cL:=kA.below b2 kA.lt;obtain⟨u,dL⟩:∃u:UV,u.Ok∧Pub u∧Uc u=Uc (mkU (Ig (Fv a.who % 4).toUInt8 77) V (Ig (B8o a.key) (B8o (i:Int)))):=⟨_,C3g _ _ (Na _ _),⟨Fv a.who,by unfold mkU;rfl⟩,rfl⟩;obtain⟨bO,cT,cU⟩:=dL;rw[←cU];clear cU cB a0 a1 a2 dI hv0;have bB:=bO.len;have bC:=(Bk.new w2 63 (Aw (Rg 129))).canvc (n:=129) (Ku _).len;obtain⟨w3,bI⟩:∃x,x=C9 (w2.alloc (Obj.cells (Aw (Rg 129)).toArray 63)) ⟨w2.heap.size,0,none⟩ (Aw u):=⟨_,rfl⟩;have ku:Bk w3 w2.heap.size 63 (Aw u):=by rw[bI];exact (Bk.new w2 63 (Aw (Rg 129))).putvc (n:=129) (Ku _).len bB
     have b3:Below w2.heap.size w2 w3:=by rw[bI];exact C1 ((Below.refl _ _).alloc (Nat.le_refl _) _) (Nat.le_refl _) _
     have I3:=I2.up b3;have cM:=cL.below b3 cL.lt;have c3:=cM.at_ (i:=3) rfl;rw[bI]at c3;obtain⟨x1,dM⟩:∃x1,u.sig[1]?=some x1:=⟨_,List.getElem?_eq_getElem (by rw[bO.sig];decide)⟩;have cQ:w3.cell? ⟨w2.heap.size,66,none⟩=some (.int .u8 (n8 x1)):=UV.sigAt ku bO dM;have cR:=ku.frozen 66;rw[bI]at cQ cR;cases hwr:a.wrong;case' false=>
      have bP:=ku.rowvc (n:=129) bB;rw[bI]at bP;go_wp2_with fail;rw[←bI];clear bP cQ cR c3 bI bC;obtain⟨uu,aH⟩:∃uu,uu=u:=⟨_,rfl⟩;obtain⟨ww,bS⟩:∃ww,ww=w3:=⟨_,rfl⟩;have bM:uu.Ok:=by rw[aH];exact bO
      have aV:Pub uu:=by rw[aH];exact cT
      have cN:Bk ww w2.heap.size 63 (Aw uu):=by rw[aH,bS];exact ku
      have II:=I3;have bV:=cM;rw[←bS]at II bV ⊢;rw[←aH];clear aH bS
     case' true=>
      have kt:=ku.turn bO (x1 ^^^ 2);have bP:=kt.rowvc (n:=129) (B2t bO _).len;have cV:=I2.up (b3.setCell (p:=⟨w2.heap.size,66,none⟩) (Nat.le_refl _) (.int .u8 (n8 (x1 ^^^ 2))));have cW:=cM.far (p:=⟨w2.heap.size,66,none⟩) (by have:=cL.lt;simp;omega) (.int .u8 (n8 (x1 ^^^ 2)));have cS:=D2y x1;rw[bI]at bP;go_wp2_with fail;rw[←bI];clear bP cQ cR c3 bI bC cS;obtain⟨uu,aH⟩:∃uu,uu=A2n u (x1 ^^^ 2):=⟨_,rfl⟩;obtain⟨ww,bS⟩:∃ww,ww=w3.setCell ⟨w2.heap.size,66,none⟩ (.int .u8 (n8 (x1 ^^^ 2))):=⟨_,rfl⟩;have bM:uu.Ok:=by rw[aH];exact B2t bO _
      have aV:Pub uu:=by rw[aH];exact cT
      have cN:Bk ww w2.heap.size 63 (Aw uu):=by rw[aH,bS];exact kt
      have II:=cV;have bV:=cW;rw[←bS]at II bV ⊢;rw[←aH];clear aH bS cV cW kt
    all_goals
     clear I3 cM ku bO b3 bB;refine (A2l uu bM ww).mono ?_;rintro x w5 ⟨rfl,b5⟩;have I5:=II.up b5;have aT:=bV.below b5 bV.lt;have bT:=cN.below b5 cN.lt;clear II bV cN b5 b2 I2 cL;generalize w2.heap.size=gu at *;generalize wr.heap.size=ga at *;have bB:=bM.len
    all_goals
     have bP:=bT.rowvc (n:=129) bB;have bQ:=I5.lo.len;have aU:gs.length=bs.length:=by have:=I5.lg.len;simpa using this
     cases hsg:signedB uu;case false=>
      cases hct:a.cut;case false=>
       go_wp2_with (first | (at_builtin;refine Ci 39 63 (Uc (Rg 129)) 129 136 Tryz.underlying39 Td bU (by decide) (by decide) rfl _ _ rfl rfl I5.uo.2 (Aw uu) bB (Nc uu) _ rfl rfl rfl (by omega) I5.hW ?_;intro A7 c7 w7 cC cD aC aP aI bD;have aQ:=World.ownsRow.kept I5.bo aI (U5 I5.bo I5.uo.2 (by decide));have aJ:=Nat.le_trans I5.hW aP.size) | (at_builtin;refine Ci 41 4 (.bool false) 1 1 Tryz.underlying41 Wp rfl (by decide) (by decide) rfl _ _ rfl rfl aQ [.bool false] rfl aK _ rfl rfl rfl (by rw[List.length_map];omega) aJ ?_;intro A8 c8 w8 cE cF aA bE aR bF;have aA:w8.ownsRow M 4 1 (.slice A8 (us.length+1) c8) (us.length+1) ((us.map signedB).map Value.bool++[.bool false]):=(by simpa using aA);have I8:=I5.app bM aV hsg aC aP aI aA bE aR;have aS:=aT.grown aI (Bh aT I5.uo.2 (by decide));have bG:=aS.grown aR (Bh aS aQ (by decide));have c4:=bG.at_ (i:=4) rfl));go_roundw;case rel=>exact ⟨i+1,M,m,os,gs,bs,us++[uu],by omega,by omega,by go_num,I8,by omega,by simp;omega,by omega,bN⟩
       case measure=>simp[intOf];omega
      case true=>
       go_wp2_with (first | (at_builtin;refine Ci 39 63 (Uc (Rg 129)) 129 136 Tryz.underlying39 Td bU (by decide) (by decide) rfl _ _ rfl rfl I5.uo.2 (Aw uu) bB (Nc uu) _ rfl rfl rfl (by omega) I5.hW ?_;intro A7 c7 w7 cC cD aC aP aI bD;have aQ:=World.ownsRow.kept I5.bo aI (U5 I5.bo I5.uo.2 (by decide));have aJ:=Nat.le_trans I5.hW aP.size) | (at_builtin;refine Ci 41 4 (.bool false) 1 1 Tryz.underlying41 Wp rfl (by decide) (by decide) rfl _ _ rfl rfl aQ [.bool false] rfl aK _ rfl rfl rfl (by rw[List.length_map];omega) aJ ?_;intro A8 c8 w8 cE cF aA bE aR bF;have aA:w8.ownsRow M 4 1 (.slice A8 (us.length+1) c8) (us.length+1) ((us.map signedB).map Value.bool++[.bool false]):=(by simpa using aA);have I8:=I5.app bM aV hsg aC aP aI aA bE aR;have aS:=aT.grown aI (Bh aT I5.uo.2 (by decide));have bG:=aS.grown aR (Bh aS aQ (by decide));have c4:=bG.at_ (i:=4) rfl) | (at_builtin;refine Ci 25 39 (.slice none 0 0) 1 24 Tryz.underlying25 Zq rfl (by decide) (by decide) rfl _ _ rfl rfl I8.out [.slice A7 (us.length+1) c7] rfl aD _ rfl rfl rfl (by omega) I8.below.size ?_;intro A9 c9 w9 cH cI aF aW aX bJ;have aG:=World.ownsRow.kept I8.good aX (U5 I8.good I8.out (by decide));have aL:=Nat.le_trans I8.below.size aW.size) | (at_builtin;refine Ci 26 41 (.slice none 0 0) 1 24 Tryz.underlying26 Zz rfl (by decide) (by decide) rfl _ _ rfl rfl aG [.slice A8 (us.length+1) c8] rfl aD _ rfl rfl rfl (by omega) aL ?_;intro cJ cK bR bK bL aB aM aN aY))
       have aO:=I8.cut aF aW aX aB aM aN;rw[bQ,aU]at aO;go_roundw;case rel=>exact ⟨i+1,bR.heap.size,m,_,_,bs++[us++[uu]],[],by omega,by omega,by go_num,aO,by omega,by simp,by simp;omega,fun b hb=>by
        rcases List.mem_append.1 hb with hb | hb
        ·exact bN b hb
        ·simp at hb;subst hb;simp;omega⟩
       case measure=>simp[intOf];omega
     case true=>
      obtain⟨y5,dZ⟩:=I5.mc.look (Fv a.who);cases hvc:(V==wrap64 (y5+1));case false=>
       cases hct:a.cut;case false=>
        go_wp2_with (first | (at_builtin;refine Ci 39 63 (Uc (Rg 129)) 129 136 Tryz.underlying39 Td bU (by decide) (by decide) rfl _ _ rfl rfl I5.uo.2 (Aw uu) bB (Nc uu) _ rfl rfl rfl (by omega) I5.hW ?_;intro A7 c7 w7 cC cD aC aP aI bD;have aQ:=World.ownsRow.kept I5.bo aI (U5 I5.bo I5.uo.2 (by decide));have aJ:=Nat.le_trans I5.hW aP.size) | (at_builtin;refine Ci 41 4 (.bool false) 1 1 Tryz.underlying41 Wp rfl (by decide) (by decide) rfl _ _ rfl rfl aQ [.bool true] rfl aK _ rfl rfl rfl (by rw[List.length_map];omega) aJ ?_;intro A8 c8 w8 cE cF aA bE aR bF;have aA:w8.ownsRow M 4 1 (.slice A8 (us.length+1) c8) (us.length+1) ((us.map signedB).map Value.bool++[.bool true]):=(by simpa using aA);have I8:=I5.app bM aV hsg aC aP aI aA bE aR;have aS:=aT.grown aI (Bh aT I5.uo.2 (by decide));have bG:=aS.grown aR (Bh aS aQ (by decide));have c4:=bG.at_ (i:=4) rfl));go_roundw;case rel=>exact ⟨i+1,M,m,os,gs,bs,us++[uu],by omega,by omega,by go_num,I8,by omega,by simp;omega,by omega,bN⟩
        case measure=>simp[intOf];omega
       case true=>
        go_wp2_with (first | (at_builtin;refine Ci 39 63 (Uc (Rg 129)) 129 136 Tryz.underlying39 Td bU (by decide) (by decide) rfl _ _ rfl rfl I5.uo.2 (Aw uu) bB (Nc uu) _ rfl rfl rfl (by omega) I5.hW ?_;intro A7 c7 w7 cC cD aC aP aI bD;have aQ:=World.ownsRow.kept I5.bo aI (U5 I5.bo I5.uo.2 (by decide));have aJ:=Nat.le_trans I5.hW aP.size) | (at_builtin;refine Ci 41 4 (.bool false) 1 1 Tryz.underlying41 Wp rfl (by decide) (by decide) rfl _ _ rfl rfl aQ [.bool true] rfl aK _ rfl rfl rfl (by rw[List.length_map];omega) aJ ?_;intro A8 c8 w8 cE cF aA bE aR bF;have aA:w8.ownsRow M 4 1 (.slice A8 (us.length+1) c8) (us.length+1) ((us.map signedB).map Value.bool++[.bool true]):=(by simpa using aA);have I8:=I5.app bM aV hsg aC aP aI aA bE aR;have aS:=aT.grown aI (Bh aT I5.uo.2 (by decide));have bG:=aS.grown aR (Bh aS aQ (by decide));have c4:=bG.at_ (i:=4) rfl) | (at_builtin;refine Ci 25 39 (.slice none 0 0) 1 24 Tryz.underlying25 Zq rfl (by decide) (by decide) rfl _ _ rfl rfl I8.out [.slice A7 (us.length+1) c7] rfl aD _ rfl rfl rfl (by omega) I8.below.size ?_;intro A9 c9 w9 cH cI aF aW aX bJ;have aG:=World.ownsRow.kept I8.good aX (U5 I8.good I8.out (by decide));have aL:=Nat.le_trans I8.below.size aW.size) | (at_builtin;refine Ci 26 41 (.slice none 0 0) 1 24 Tryz.underlying26 Zz rfl (by decide) (by decide) rfl _ _ rfl rfl aG [.slice A8 (us.length+1) c8] rfl aD _ rfl rfl rfl (by omega) aL ?_;intro cJ cK bR bK bL aB aM aN aY))
        have aO:=I8.cut aF aW aX aB aM aN;rw[bQ,aU]at aO;go_roundw;case rel=>exact ⟨i+1,bR.heap.size,m,_,_,bs++[us++[uu]],[],by omega,by omega,by go_num,aO,by omega,by simp,by simp;omega,fun b hb=>by
         rcases List.mem_append.1 hb with hb | hb
         ·exact bN b hb
         ·simp at hb;subst hb;simp;omega⟩
        case measure=>simp[intOf];omega
      case true=>
       obtain⟨D5,cX⟩:=I5.mc;obtain⟨cY,cG⟩:=B2w (Fv a.who);have aZ:=I5.mc.row;have cZ:m<maxLen:=by unfold maxLen;omega
       cases hct:a.cut;case false=>
        go_wp2_with (first | (at_mapUpdate;refine wpList_mapUpdate_own _ rfl _ _ _ 59 rfl 3 3 Sz Tryz.underlying59 RI w.heap.size m D5 rfl cX cZ _ _ cY rfl rfl cG (.held (.int .i64 (wrap64 (y5+1)))) [] rfl ?_;intro w6 bH aE;have aT:=Y9 aT aE aZ;have bT:=Y9 bT aE aZ;have bP:=bT.rowvc (n:=129) bB;have I5:=I5.map (Nat.le_refl _) bH aE) | (at_builtin;refine Ci 39 63 (Uc (Rg 129)) 129 136 Tryz.underlying39 Td bU (by decide) (by decide) rfl _ _ rfl rfl I5.uo.2 (Aw uu) bB (Nc uu) _ rfl rfl rfl (by omega) I5.hW ?_;intro A7 c7 w7 cC cD aC aP aI bD;have aQ:=World.ownsRow.kept I5.bo aI (U5 I5.bo I5.uo.2 (by decide));have aJ:=Nat.le_trans I5.hW aP.size) | (at_builtin;refine Ci 41 4 (.bool false) 1 1 Tryz.underlying41 Wp rfl (by decide) (by decide) rfl _ _ rfl rfl aQ [.bool true] rfl aK _ rfl rfl rfl (by rw[List.length_map];omega) aJ ?_;intro A8 c8 w8 cE cF aA bE aR bF;have aA:w8.ownsRow M 4 1 (.slice A8 (us.length+1) c8) (us.length+1) ((us.map signedB).map Value.bool++[.bool true]):=(by simpa using aA);have I8:=I5.app bM aV hsg aC aP aI aA bE aR;have aS:=aT.grown aI (Bh aT I5.uo.2 (by decide));have bG:=aS.grown aR (Bh aS aQ (by decide));have c4:=bG.at_ (i:=4) rfl));go_roundw;case rel=>exact ⟨i+1,M,m+1,os,gs,bs,us++[uu],by omega,by omega,by go_num,I8,by omega,by simp;omega,by omega,bN⟩
        case measure=>simp[intOf];omega
       case true=>
        go_wp2_with (first | (at_mapUpdate;refine wpList_mapUpdate_own _ rfl _ _ _ 59 rfl 3 3 Sz Tryz.underlying59 RI w.heap.size m D5 rfl cX cZ _ _ cY rfl rfl cG (.held (.int .i64 (wrap64 (y5+1)))) [] rfl ?_;intro w6 bH aE;have aT:=Y9 aT aE aZ;have bT:=Y9 bT aE aZ;have bP:=bT.rowvc (n:=129) bB;have I5:=I5.map (Nat.le_refl _) bH aE) | (at_builtin;refine Ci 39 63 (Uc (Rg 129)) 129 136 Tryz.underlying39 Td bU (by decide) (by decide) rfl _ _ rfl rfl I5.uo.2 (Aw uu) bB (Nc uu) _ rfl rfl rfl (by omega) I5.hW ?_;intro A7 c7 w7 cC cD aC aP aI bD;have aQ:=World.ownsRow.kept I5.bo aI (U5 I5.bo I5.uo.2 (by decide));have aJ:=Nat.le_trans I5.hW aP.size) | (at_builtin;refine Ci 41 4 (.bool false) 1 1 Tryz.underlying41 Wp rfl (by decide) (by decide) rfl _ _ rfl rfl aQ [.bool true] rfl aK _ rfl rfl rfl (by rw[List.length_map];omega) aJ ?_;intro A8 c8 w8 cE cF aA bE aR bF;have aA:w8.ownsRow M 4 1 (.slice A8 (us.length+1) c8) (us.length+1) ((us.map signedB).map Value.bool++[.bool true]):=(by simpa using aA);have I8:=I5.app bM aV hsg aC aP aI aA bE aR;have aS:=aT.grown aI (Bh aT I5.uo.2 (by decide));have bG:=aS.grown aR (Bh aS aQ (by decide));have c4:=bG.at_ (i:=4) rfl) | (at_builtin;refine Ci 25 39 (.slice none 0 0) 1 24 Tryz.underlying25 Zq rfl (by decide) (by decide) rfl _ _ rfl rfl I8.out [.slice A7 (us.length+1) c7] rfl aD _ rfl rfl rfl (by omega) I8.below.size ?_;intro A9 c9 w9 cH cI aF aW aX bJ;have aG:=World.ownsRow.kept I8.good aX (U5 I8.good I8.out (by decide));have aL:=Nat.le_trans I8.below.size aW.size) | (at_builtin;refine Ci 26 41 (.slice none 0 0) 1 24 Tryz.underlying26 Zz rfl (by decide) (by decide) rfl _ _ rfl rfl aG [.slice A8 (us.length+1) c8] rfl aD _ rfl rfl rfl (by omega) aL ?_;intro cJ cK bR bK bL aB aM aN aY))
        have aO:=I8.cut aF aW aX aB aM aN;rw[bQ,aU]at aO;go_roundw;case rel=>exact ⟨i+1,bR.heap.size,m+1,_,_,bs++[us++[uu]],[],by omega,by omega,by go_num,aO,by omega,by simp,by simp;omega,fun b hb=>by
         rcases List.mem_append.1 hb with hb | hb
         ·exact bN b hb
         ·simp at hb;subst hb;simp;omega⟩
        case measure=>simp[intOf];omega
  ·
   have hd:decide ((i:Int)<(n:Int))=false:=decide_eq_false (by omega);have dG:decide (i<n)=false:=decide_eq_false (by omega);have II:=I;have bQ:=II.lo.len;have aU:gs.length=bs.length:=by have:=II.lg.len;simpa using this
   obtain⟨Au,cu,rfl,_,_⟩:=Bm II.uo.2;obtain⟨Ab,cb,bZ,_,_⟩:=Bm II.bo;rw[List.length_map]at bZ;subst bZ;go_wp2_with (first | (at_builtin;refine Ci 25 39 (.slice none 0 0) 1 24 Tryz.underlying25 Zq rfl (by decide) (by decide) rfl _ _ rfl rfl II.out [.slice Au us.length cu] rfl aD _ rfl rfl rfl (by omega) II.below.size ?_;intro A9 c9 w9 cH cI aF aW aX bJ;have aG:=World.ownsRow.kept II.good aX (U5 II.good II.out (by decide));have aL:=Nat.le_trans II.below.size aW.size) | (at_builtin;refine Ci 26 41 (.slice none 0 0) 1 24 Tryz.underlying26 Zz rfl (by decide) (by decide) rfl _ _ rfl rfl aG [.slice Ab us.length cb] rfl aD _ rfl rfl rfl (by omega) aL ?_;intro cJ cK bR bK bL aB aM aN aY));have aO:=II.cut aF aW aX aB aM aN;rw[bQ,aU]at aO;exact bodyPost_ret (P9 rfl (M5.tmp rfl) (M5.tmp rfl)) rfl ⟨_,_,bs++[us],rfl,aO.made,by simp;omega,fun b hb=>by
    rcases List.mem_append.1 hb with hb | hb
    ·exact bN b hb
    ·simp at hb;subst hb;omega,fun b hb=>aO.pub b (List.mem_cons_of_mem _ hb),aO.below⟩
end
section
theorem A7n {sd A B:List UInt8} (h1:(H8 sd==A)=true) (h2:(Xe (Qy A2q C5i A 8)==B)=true):U7 sd=B:=by
 rw[beq_iff_eq]at h1;unfold U7;rw[h1];exact Zh rfl h2
set_option maxRecDepth 100000
set_option maxHeartbeats 0
def ep0:List UInt8:=[45,133,48,215,63,187,48,75,44,73,100,74,229,204,95,124,160,234,233,171,116,23,251,231,78,157,54,255,229,225,199,130]
theorem F0n:U7 (Ig 0 77)=ep0:=A7n (A:=[168,124,27,84,184,127,73,128,119,153,10,214,137,47,183,133,213,179,95,180,16,235,185,106,190,227,71,81,139,213,28,116]) (by decide +kernel) (by decide +kernel)
def ep1:List UInt8:=[66,12,217,202,74,97,121,192,92,11,12,12,228,52,216,220,34,49,184,58,9,84,45,14,81,175,101,33,90,184,43,18]
theorem F0k:U7 (Ig 1 77)=ep1:=A7n (A:=[112,39,149,172,130,77,154,215,28,211,214,86,40,140,225,135,254,31,121,251,70,112,246,232,216,99,166,67,247,198,209,105]) (by decide +kernel) (by decide +kernel)
def ep2:List UInt8:=[202,213,20,196,122,240,225,94,99,5,65,49,210,238,24,90,242,247,154,222,243,153,80,98,214,181,157,235,49,202,38,201]
theorem F1d:U7 (Ig 2 77)=ep2:=A7n (A:=[112,109,216,182,82,66,62,193,230,159,209,162,106,68,211,251,69,119,121,213,58,107,102,157,49,185,221,142,100,127,251,83]) (by decide +kernel) (by decide +kernel)
def ep3:List UInt8:=[111,69,189,22,207,135,230,211,206,173,222,88,42,203,130,251,248,255,239,168,202,111,130,127,25,197,229,198,22,153,157,47]
theorem F0x:U7 (Ig 3 77)=ep3:=A7n (A:=[88,226,146,120,216,93,234,154,55,24,38,212,42,35,164,91,135,21,234,195,222,50,138,98,242,237,108,222,126,45,176,85]) (by decide +kernel) (by decide +kernel)
theorem C2z (x:UInt64):x % 4=0∨x % 4=1∨x % 4=2∨x % 4=3:=by
 have h:=UInt64.toNat_mod x 4;have h4:(4:UInt64).toNat=4:=rfl;rw[h4]at h;have e:∀y:UInt64,(x % 4).toNat=y.toNat→x % 4=y:=fun y h=>UInt64.toNat_inj.1 h;have h5:x.toNat % 4=0∨x.toNat % 4=1∨x.toNat % 4=2∨x.toNat % 4=3:=by omega
 rcases h5 with h5 | h5 | h5 | h5<;>rw[h5]at h
 ·exact .inl (e 0 h)
 ·exact .inr (.inl (e 1 h))
 ·exact .inr (.inr (.inl (e 2 h)))
 ·exact .inr (.inr (.inr (e 3 h)))
theorem Pub.ne {u:UV} (h:Pub u):u.id≠h1 200∧u.id≠h1 201:=by
 obtain⟨x,hx⟩:=h;rw[hx];rcases C2z x with e | e | e | e<;>rw[e]
 ·rw[show ((0:UInt64).toUInt8)=0 from rfl,F0n];decide +kernel
 ·rw[show ((1:UInt64).toUInt8)=1 from rfl,F0k];decide +kernel
 ·rw[show ((2:UInt64).toUInt8)=2 from rfl,F1d];decide +kernel
 ·rw[show ((3:UInt64).toUInt8)=3 from rfl,F0x];decide +kernel
end
end Go.Proofs.YtlegpkdighoflaaGreat
