/- A part of the proof of DirPlays. -/
import Derived.Test.YtlegpkdighoflaaGreatRbi
import Derived.Test.YtlegpkdighoflaaGreatRbk
import Derived.Test.YtlegpkdighoflaaGreatRbl
set_option linter.unusedVariables false
set_option linter.unusedSimpArgs false
set_option maxRecDepth 100000
set_option maxHeartbeats 40000000
namespace Go.Proofs.YtlegpkdighoflaaGreat
open Go Go.RowKit Sh
section
structure AV where
 who:Int
 ver:Int
 key:Int
 wrong:Bool
 cut:Bool
def AV.cells (a:AV):List Value:=[.int .i64 a.who,.int .i64 a.ver,.int .i64 a.key,.bool a.wrong,.bool a.cut]
def As (w:World) (B:Nat) (v:Value) (l:List AV):Prop:=∃A c,v=.slice A l.length c∧l.length≤c∧c≤9223372036854775807∧Rd w 0 B A (l.flatMap AV.cells)
theorem aat:∀ {l:List AV} {i:Nat} {a:AV},l[i]?=some a→((l.flatMap AV.cells).drop (i*5)).take 5=a.cells
 | [],i,a,h=>by simp at h
 | x::l,0,a,h=>by
  obtain rfl:x=a:=by simpa using h
  rfl
 | x::l,i+1,a,h=>by
  have:=aat (l:=l) (i:=i) (a:=a) (by simpa using h);rw[List.flatMap_cons,List.drop_append,List.drop_eq_nil_of_le (by simp[AV.cells];omega)];have e:(i+1)*5-x.cells.length=i*5:=by simp[AV.cells];omega
  rw[e,List.nil_append,this]
theorem As.at_ {w:World} {B:Nat} {A:Option Addr} {n c:Nat} {l:List AV} (h:As w B (.slice A n c) l) {i:Nat} {a:AV} (ha:l[i]?=some a):∃g o,A=some ⟨g,o,none⟩∧g<B∧C8 w ⟨g,o+i*5,none⟩ 5=some a.cells:=by
 obtain⟨A',c',h1,h2,h3,h4⟩:=h;injection h1 with h1;subst h1;rcases h4 with h4 | ⟨g,o,h5,h6,h7,h8⟩
 ·have:=aat ha;rw[h4]at this;simp[AV.cells]at this
 ·have aA:=aat ha;refine ⟨g,o,h5,h7,Cc.2 ⟨rfl,fun j u hj=>?_⟩⟩;have aB:j<5:=(List.getElem?_eq_some_iff.1 hj).1;rw[Nat.add_assoc];refine h8 _ _ ?_;rw[←hj,←aA];simp only[List.getElem?_take,List.getElem?_drop,if_pos aB]
theorem B7q:Tryz.prog.underlying 80=some (.struct (S4 Tryz.prog 80)):=by kernel_rfl
theorem B6f:(Tryz.prog.info? 80).map (·.size)=some 5:=by kernel_rfl
theorem D0h:((Tryz.prog.info? 80).bind (·.zero))=some (.agg (AV.cells ⟨0,0,0,false,false⟩).toArray):=by kernel_rfl
section
variable (w : World) (ρ : Operand → Value) (dst : Option Tmp) (ty : TypeId) (pos : String) (after : Array Edge) (guard : Option (Nat × Bool))
theorem D2k:RL' 80 5:=LL' B7q B6f
theorem C5n:RS' 80 5:=SS' B6f
end
theorem B2w (w:World) (raw:Result Next) (a:Addr) (p q r:Int) (b c:Bool) (h:P7 w a 5=true):Cj 5 w raw (.pointer (some a)) (.agg #[.int .i64 p,.int .i64 q,.int .i64 r,.bool b,.bool c])=.ok .skip (C4 w a [.int .i64 p,.int .i64 q,.int .i64 r,.bool b,.bool c]):=by
 have e:Value.agg #[.int .i64 p,.int .i64 q,.int .i64 r,.bool b,.bool c]=Value.agg ([.int .i64 p,.int .i64 q,.int .i64 r,.bool b,.bool c]:List Value).toArray:=rfl;rw[e,Vv,h];simp[Value.oneCell']
theorem C9x (x:UInt64):IntKind.i64.wrap (F0 (x % 4))=F0 (x % 4):=IntWalk.i64_in _ (by
 unfold F0;have h:=UInt64.toNat_mod x 4;have h4:(4:UInt64).toNat=4:=rfl;rw[h,h4];omega)
def C2y (v:Int):UInt8:=UInt8.ofNat (v % 256).toNat
theorem A3m (v:Int):IntKind.u8.wrap v=n8 (C2y v):=by
 unfold n8 C2y;rw[UInt8.toNat_ofNat'];simp only[IntKind.wrap,IntKind.bits,IntKind.signed,Bool.false_and,Bool.false_eq_true,if_false];omega
def RI (v:Value):Option (DataW Value×List MemPlace):=match v with | .int .i64 _=>some (.held v,[]) | _=>none
theorem E4l {v:Value} {y:DataW Value×List MemPlace} (h:RI v=some y):∃x,v=.int .i64 x:=by
 unfold RI at h;split at h
 ·exact ⟨_,rfl⟩
 ·cases h
theorem Wn:Maps.Keyed Tryz.prog 3:=Maps.int_keyed Tryz.underlying3
theorem B2k (x:UInt64):∃kl,keyOf Tryz.prog 3 (.int .i64 (F0 (x % 4)))=some kl:=by
 have h:(x % 4).toNat<4:=by rw[UInt64.toNat_mod];exact Nat.mod_lt _ (by decide)
 unfold F0;match (x % 4).toNat,h with
 | 0,_=>exact ⟨.int .i64 0,by kernel_rfl⟩
 | 1,_=>exact ⟨.int .i64 1,by kernel_rfl⟩
 | 2,_=>exact ⟨.int .i64 2,by kernel_rfl⟩
 | 3,_=>exact ⟨.int .i64 3,by kernel_rfl⟩
def MapC (w:World) (b n:Nat):Prop:=∃D:DataW Value,w.ownsMap Tryz.prog 3 RI b n D
theorem MapC.made (w:World):MapC (w.alloc (.map #[] 0)) w.heap.size 0:=⟨.map [],World.ownsMap_made _ _ _ _⟩
theorem MapC.look {w:World} {b n:Nat} (h:MapC w b n) (x:UInt64):∃y,(Instr.lookup 59 (.map (some b)) (.int .i64 (F0 (x % 4))) false).run Tryz.prog w=.ok (.int .i64 y) w:=by
 obtain⟨D,hD⟩:=h;obtain⟨kl,hk⟩:=B2k x;obtain⟨v,ps,h1,h2⟩:=hD.lookup Wn Tryz.underlying59 (z:=.int .i64 0) (by kernel_rfl) (zd:=.held (.int .i64 0)) (zp:=[]) rfl hk;obtain⟨y,rfl⟩:=E4l h2;exact ⟨y,h1⟩
theorem MapC.row {w:World} {b n:Nat} (h:MapC w b n):∀r,some b=some r→∃o:Obj,w.heap[r]?=some o∧o.isCells=false:=by
 obtain⟨D,⟨es,aA,hb,_⟩⟩:=h;intro r e;injection e with e;subst e;exact ⟨_,hb,rfl⟩
theorem MapC.kept {w w':World} {b n:Nat} {row:Option Nat} (h:MapC w b n) (hg:w.grownBy w' row) (hne:some b≠row):MapC w' b n:=by
 obtain⟨D,hD⟩:=h;exact ⟨D,hD.kept hg hne⟩
theorem MapC.below {w w':World} {b n:Nat} (h:MapC w b n) (hb:Below w.heap.size w w'):MapC w' b n:=
 h.kept (row:=none) ⟨hb.os,hb.tape,hb.output,hb.size,fun k hk _=>hb.block k (by omega)⟩ (by simp)
theorem MapC.own {w w':World} {b n base sz k:Nat} {T:TypeId} {v:Value} {xs:List Value} (h:MapC w b n) (ho:w.ownsRow base T sz v k xs) (hg:w.grownBy w' v.ownBlock):MapC w' b n:=by
 refine h.kept hg fun e=>?_;obtain⟨o,h1,h2⟩:=h.row b rfl;rcases ho.2 with ⟨hv,_⟩ | ⟨g,cap,cur,hv,_,hh,_⟩
 ·rw[hv]at e;cases e
 ·rw[hv]at e;injection e with e;subst e;rw[hh]at h1;injection h1 with h1;subst h1;cases h2
theorem Cs {w:World} {g base sz n:Nat} {T T':TypeId} {cs xs:List Value} {v:Value} (h:Bk w g T cs) (ho:w.ownsRow base T' sz v n xs) (hT:T≠T'):some g≠v.ownBlock:=fun e=>by
 rcases ho.2 with ⟨hv,_⟩ | ⟨g',cap,cur,hv,_,hh,_⟩
 ·rw[hv]at e;cases e
 ·rw[hv]at e;injection e with e;subst e;unfold Bk at h;rw[h]at hh;injection hh with hh;injection hh with _ h2;exact hT h2
def OwnU (w:World) (base:Nat) (v:Value) (us:List UV):Prop:=(∀u∈us,u.Ok)∧w.ownsRow base 63 129 v us.length (us.flatMap Ch)
def OwnB (w:World) (base:Nat) (v:Value) (gs:List Bool):Prop:=w.ownsRow base 4 1 v gs.length (gs.map Value.bool)
theorem Wc {w:World} {base sz n:Nat} {T:TypeId} {v:Value} {xs:List Value} (h:w.ownsRow base T sz v n xs):(v=.slice none 0 0∧n=0)∨∃g tl c,v=.slice (some ⟨g,0,none⟩) n c∧Bk w g T (xs++tl)∧g<w.heap.size:=by
 rcases h.2 with h1 | ⟨g,cap,cur,hv,hg,hh,h1,h2,h3,h4⟩
 ·exact .inl h1
 ·refine .inr ⟨g,cur.toList.drop (n*sz),cap,hv,?_,(Array.getElem?_eq_some_iff.1 hh).1⟩;unfold Bk;rw[hh,←h4,List.take_append_drop]
theorem OwnU.us {w:World} {base:Nat} {v:Value} {us:List UV} (h:OwnU w base v us):US w w.heap.size v us:=by
 rcases Wc h.2 with ⟨h1,h2⟩ | ⟨g,tl,c,h1,h2,h3⟩
 ·exact .inl ⟨List.eq_nil_of_length_eq_zero h2,h1⟩
 ·exact .inr ⟨g,tl,c,h1,⟨h.1,h2⟩,h3⟩
theorem OwnB.bs {w:World} {base:Nat} {v:Value} {gs:List Bool} (h:OwnB w base v gs):BS w w.heap.size v gs:=by
 rcases Wc h with ⟨h1,h2⟩ | ⟨g,tl,c,h1,h2,h3⟩
 ·exact .inl ⟨List.eq_nil_of_length_eq_zero h2,h1⟩
 ·exact .inr ⟨g,tl,c,h1,h2,h3⟩
def Lot {α:Type} (F:Value→α→Prop):List Value→List α→Prop
 | [],[]=>True
 | v::vs,x::xs=>F v x∧Lot F vs xs
 | _,_=>False
theorem Lot.mono {α:Type} {F G:Value→α→Prop} (h:∀v x,F v x→G v x):∀ {vs:List Value} {xs:List α},Lot F vs xs→Lot G vs xs
 | [],[],_=>trivial
 | _::_,_::_,hh=>⟨h _ _ hh.1,Lot.mono h hh.2⟩
 | [],_::_,hh=>hh.elim
 | _::_,[],hh=>hh.elim
theorem Lot.snoc {α:Type} {F:Value→α→Prop} {v:Value} {x:α} (h:F v x):∀ {vs:List Value} {xs:List α},Lot F vs xs→Lot F (vs++[v]) (xs++[x])
 | [],[],_=>⟨h,trivial⟩
 | _::_,_::_,hh=>⟨hh.1,Lot.snoc h hh.2⟩
 | [],_::_,hh=>hh.elim
 | _::_,[],hh=>hh.elim
theorem Lot.len {α:Type} {F:Value→α→Prop}:∀ {vs:List Value} {xs:List α},Lot F vs xs→vs.length=xs.length
 | [],[],_=>rfl
 | _::_,_::_,hh=>by simp[Lot.len hh.2]
 | [],_::_,hh=>hh.elim
 | _::_,[],hh=>hh.elim
theorem Lot.at_ {α:Type} {F:Value→α→Prop}:∀ {vs:List Value} {xs:List α},Lot F vs xs→∀ {i:Nat} {x:α},xs[i]?=some x→∃v,vs[i]?=some v∧F v x
 | [],[],_,i,x,h=>by simp at h
 | v::vs,y::xs,hh,0,x,h=>by simp at h;subst h;exact ⟨v,rfl,hh.1⟩
 | v::vs,y::xs,hh,i+1,x,h=>by
  obtain⟨u,h1,h2⟩:=Lot.at_ hh.2 (i:=i) (x:=x) (by simpa using h);exact ⟨u,by simpa using h1,h2⟩
 | [],_::_,hh,_,_,_=>hh.elim
 | _::_,[],hh,_,_,_=>hh.elim
theorem US.grown {w w':World} {B:Nat} {v:Value} {us:List UV} (h:US w B v us) {base sz n:Nat} {T:TypeId} {u:Value} {xs:List Value} (ho:w.ownsRow base T sz u n xs) (hT:63≠T) (hg:w.grownBy w' u.ownBlock):US w' B v us:=by
 rcases h with h | ⟨g,tl,c,h1,h2,h3⟩
 ·exact .inl h
 ·exact .inr ⟨g,tl,c,h1,⟨h2.1,h2.2.grown hg (Cs h2.2 ho hT)⟩,h3⟩
theorem BS.grown {w w':World} {B:Nat} {v:Value} {us:List Bool} (h:BS w B v us) {base sz n:Nat} {T:TypeId} {u:Value} {xs:List Value} (ho:w.ownsRow base T sz u n xs) (hT:4≠T) (hg:w.grownBy w' u.ownBlock):BS w' B v us:=by
 rcases h with h | ⟨g,tl,c,h1,h2,h3⟩
 ·exact .inl h
 ·exact .inr ⟨g,tl,c,h1,h2.grown hg (Cs h2 ho hT),h3⟩
structure BaI (w wr : World) (M b m : Nat) (ov gv uv bv : Value) (os gs : List Value) (bs : List (List UV)) (us : List UV) : Prop where
 out:wr.ownsRow w.heap.size 39 1 ov os.length os
 good:wr.ownsRow w.heap.size 41 1 gv gs.length gs
 lo:Lot (US wr M) os bs
 lg:Lot (BS wr M) gs (bs.map (·.map signedB))
 uo:OwnU wr M uv us
 bo:OwnB wr M bv (us.map signedB)
 mc:MapC wr b m
 hM:w.heap.size≤M
 hW:M≤wr.heap.size
 below:Below w.heap.size w wr
theorem BaI.up {w wr w':World} {M b m:Nat} {ov gv uv bv:Value} {os gs:List Value} {bs:List (List UV)} {us:List UV} (h:BaI w wr M b m ov gv uv bv os gs bs us) (hb:Below wr.heap.size wr w'):BaI w w' M b m ov gv uv bv os gs bs us:=
 ⟨Aw h.out hb (Nat.le_refl _),Aw h.good hb (Nat.le_refl _),h.lo.mono fun _ _ x=>x.below (hb.mono h.hW),h.lg.mono fun _ _ x=>x.below (hb.mono h.hW),⟨h.uo.1,Aw h.uo.2 hb (Nat.le_refl _)⟩,Aw h.bo hb (Nat.le_refl _),h.mc.below hb,h.hM,Nat.le_trans h.hW hb.size,C2 h.below hb h.below.size⟩
theorem Vi:(Tryz.prog.info? 63).map (fun i=>(i.zero,i.size,i.bytes))=some (some (Ws (Qj 129)),129,136):=by kernel_rfl
theorem Zw:(Tryz.prog.info? 4).map (fun i=>(i.zero,i.size,i.bytes))=some (some (.bool false),1,1):=by kernel_rfl
theorem A3o:(Tryz.prog.info? 39).map (fun i=>(i.zero,i.size,i.bytes))=some (some (.slice none 0 0),1,24):=by kernel_rfl
theorem A2d:(Tryz.prog.info? 41).map (fun i=>(i.zero,i.size,i.bytes))=some (some (.slice none 0 0),1,24):=by kernel_rfl
@[go_sem ↓ high] theorem F8d (w : World) (ρ : Operand → Value) (dst : Option Tmp) (ty : TypeId) (pos : String) (after : Array Edge) (guard : Option (Nat × Bool)) (x : Operand) :
 (execOp ρ { dst,op:=.buildSlice 39 1 #[(0,x)],type:=ty,pos,after,guard }).run Tryz.prog w=Jp 129 63 w (L3 Tryz.prog ρ { dst,op:=.buildSlice 39 1 #[(0,x)],type:=ty,pos,after,guard } w) (ρ x):=
 Nu w ρ dst ty pos after guard 39 63 129 136 (Ws (Qj 129)) x Tryz.underlying39 Vi (by simp[Ws,Ch,Qj,Value.cells]) (by decide) (by decide)
@[go_sem] theorem F0p (n : Nat) (e : TypeId) (w : World) (raw : Result Next) (u : UV) (h : u.length = n) : Jp n e w raw (Ws u) = .ok (.value (.slice (some ⟨w.heap.size, 0, none⟩) 1 1)) (w.alloc (.cells (Ch u).toArray e)) := by
 unfold Ws;rw[Zc,if_pos (by rw[List.size_toArray];exact h)]
theorem UV.sigAt {w:World} {g:Nat} {t:TypeId} {u:UV} (K:Bk w g t (Ch u)) (h:u.Ok) {j:Nat} {x:UInt8} (hx:u.sig[j]?=some x):w.cell? ⟨g,65+j,none⟩=some (.int .u8 (n8 x)):=by
 refine K.at_ ?_;have e:Ch u=(c8 u.id++[.int .i64 u.ver]++c8 u.key)++c8 u.sig:=by simp[Ch]
 rw[e,List.getElem?_append_right (by simp[h.id,h.key])];have e2:65+j-(c8 u.id++[Value.int .i64 u.ver]++c8 u.key).length=j:=by simp[h.id,h.key]
 rw[e2];unfold c8;rw[List.getElem?_map,hx];rfl
theorem D8b (x:UInt8):bits BinOp.xor IntKind.u8 (n8 x) 2=n8 (x ^^^ 2):=by
 have h:∀n:Nat,n<256→bits BinOp.xor IntKind.u8 (n:Int) 2=((n ^^^ 2:Nat):Int):=by decide +kernel
 unfold n8;rw[UInt8.toNat_xor];exact h x.toNat x.toNat_lt
def A4a (u:UV) (x:UInt8):UV:=⟨u.id,u.ver,u.key,u.sig.set 1 x⟩
theorem B3r {u:UV} (h:u.Ok) (x:UInt8):(A4a u x).Ok:=⟨h.id,h.key,by simp[A4a,h.sig]⟩
theorem Bk.turn {w:World} {g:Nat} {t:TypeId} {u:UV} (K:Bk w g t (Ch u)) (h:u.Ok) (x:UInt8):Bk (w.setCell ⟨g,66,none⟩ (.int .u8 (n8 x))) g t (Ch (A4a u x)):=by
 have h1:=K.set_ 66 (.int .u8 (n8 x));have e:(Ch u).set 66 (.int .u8 (n8 x))=Ch (A4a u x):=by
  have e1:Ch u=(c8 u.id++[.int .i64 u.ver]++c8 u.key)++c8 u.sig:=by simp[Ch]
  have e2:Ch (A4a u x)=(c8 u.id++[.int .i64 u.ver]++c8 u.key)++c8 (u.sig.set 1 x):=by simp[Ch,A4a]
  rw[e1,e2,List.set_append_right _ _ (by simp[h.id,h.key]),←Gx];simp[h.id,h.key]
 rw[e]at h1;exact h1
end
section
structure IsTree (t : Tr) (L : List En) : Prop where
 ok:Okt t
 prs:t.pairs=pairsE L
theorem IsTree.uniq {t s:Tr} {L:List En} (h:IsTree t L) (h':IsTree s L):t=s:=Ok.ext_mem h.ok h'.ok fun x=>by rw[h.prs,h'.prs]
theorem DirIs.okE {w:World} {dv:Value} {e:Nat} {L:List En} {N:Nat} (h:DirIs w dv e L N):OkE L:=by
 obtain⟨ap,mv,m,t,h1,h2,h3,h4,h5,h6,h7⟩:=h;exact h4
theorem DirIs.tree {w:World} {dv:Value} {e:Nat} {L:List En} {N:Nat} (h:DirIs w dv e L N):∃t,IsTree t L:=by
 obtain⟨ap,mv,m,t,h1,h2,h3,h4,h5,h6,h7⟩:=h;exact ⟨t,h5,h6⟩
theorem MVN.form2 {w:World} {mv:Value} {m:List UInt8→Option Value} {N:Nat} (h:MVN w mv m N):∃b,mv=.map b:=by
 rcases h.form with h | ⟨b,h⟩
 ·exact ⟨_,h⟩
 ·exact ⟨_,h⟩
theorem DirIs.form {w:World} {dv:Value} {e:Nat} {L:List En} {N:Nat} (h:DirIs w dv e L N):∃ap b,dv=.agg #[.int .i64 (e:Int),.pointer ap,.int .i64 0,.map b]:=by
 obtain⟨ap,mv,m,t,h1,h2,_⟩:=h;obtain⟨b,rfl⟩:=h2.form2;exact ⟨ap,b,h1⟩
section
variable {w : World} {dv : Value} {e N : Nat} {L : List En} {t : Tr}
theorem A7z (h:DirIs w dv e L N):Calls Tryz.prog 19 #[dv] w fun x w'=>x=.returned (.int .i64 (e:Int))∧Below w.heap.size w w':=by
 obtain⟨ap,mv,m,s,rfl,_⟩:=h;exact B7y _ _ _ _ w
theorem A2i (h:DirIs w dv e L N) (ht:IsTree t L):Calls Tryz.prog 17 #[dv] w fun x w'=>x=.returned (A8 t.root)∧Below w.heap.size w w':=by
 obtain⟨ap,mv,m,s,rfl,h2,h3,h4,h5,h6,h7⟩:=h;obtain rfl:=ht.uniq ⟨h5,h6⟩;exact C3x t _ _ _ _ w h7
theorem Xj (h:DirIs w dv e L N) (id:List UInt8) (hid:id.length=32) (hks:(lookE L id).length≤1000000):Calls Tryz.prog 23 #[dv,A8 id] w fun x w'=>∃u,x=.returned u∧Ee w' w.heap.size u (lookE L id)∧Below w.heap.size w w':=by
 obtain⟨ap,mv,m,s,rfl,h2,h3,h4,h5,h6,h7⟩:=h;exact A8l _ ap 0 mv h2.form m (lookE L) id hid (by omega) w h2.mv h3
theorem B8a (h:DirIs w dv e L N) (ht:IsTree t L) (id:List UInt8) (hid:id.length=32) (hks:(lookE L id).length≤1000000) (hL:L.length≤1000000):Calls Tryz.prog 11 #[dv,A8 id] w fun x w'=>∃u v,x=.returned (.agg #[u,v])∧Ee w' w.heap.size u (lookE L id)∧M9 w' w.heap.size v (t.cut [id] 0).bytes∧Below w.heap.size w w':=by
 obtain⟨ap,mv,m,s,rfl,h2,h3,h4,h5,h6,h7⟩:=h;obtain rfl:=ht.uniq ⟨h5,h6⟩;have hl:t.len≤1000000:=by rw[Tr.len_pairs,h6,Cg];exact hL
 refine B2p _ ap mv h2.form m (lookE L) id hid (by omega) t P0 h5 (by omega) (E2h h5 _ _) ?_ w h2.mv h3 h7;have:=C7h h5 (by omega) [id] 0;have h8:t.len*(65+2*(257-0))≤1000000*579:=Nat.mul_le_mul hl (by omega);omega
theorem C4k (ht:IsTree t L) (ok:OkE L) (id:List UInt8) (hid:id.length=32) (hks:(lookE L id).length≤1000000) (kv pv:Value) (hk:Hs w 0 w.heap.size kv (lookE L id)) (hb:By w 0 w.heap.size pv (t.cut [id] 0).bytes) :
 Calls Tryz.prog 16 #[A8 t.root,A8 id,.agg #[kv,pv]] w fun x w'=>x=.returned (.int .i64 0)∧Below w.heap.size w w':=by
 have hv:=A3q t [id] 0;have aA:=hv.ok ht.ok;refine C0a t.root id t.root_length hid kv pv (lookE L id) _ (t.cut [id] 0) (B5b aA (hv.tight ht.ok)) aA.wf aA.dp hv.root ?_ hks w hk hb;rw[A3w hv (Ze t [id] 0 (by simp)),B2e ht.ok ok ht.prs];rfl
end
end
section
noncomputable def u1:UV:=mkU (h1 1) 1 (h1 2)
theorem F0s:u1.Ok:=D1w _ _ (Lf 2)
theorem D8f:Hn (lookE [] u1.id) u1=true:=by
 unfold Hn;have h:signedB u1=true:=E8u.2;rw[h];rfl
theorem E3r:u1.key=h1 2:=by unfold u1 mkU;rfl
theorem B5y:applyE [u1] []=[(u1.id,[h1 2])]:=by
 have h:applyE [u1] []=Jv [] u1:=by unfold applyE;rw[List.foldl_cons,List.foldl_nil]
 rw[h];unfold Jv;rw[D8f,if_pos rfl,E3r];unfold Ck;simp[lookE]
theorem B7s:lookE [(u1.id,[h1 2])] u1.id=[h1 2]:=by unfold lookE;rw[if_pos rfl]
theorem D6x:((Tr.lf eu9.B (Dd [h1 2])).root==z8 32)=false:=by decide +kernel
theorem F1y:u1.id=eu9.B:=by
 have h:u1=⟨eu9.B,1,h1 2,eu9.F++eu9.SB⟩:=E8u.1;rw[h]
theorem C3g {t:Tr} {k v:List UInt8} (ht:Okt t) (h:t.pairs=[(k,v)]):t=.lf k v:=by
 cases t with
 | e=>simp[Tr.pairs]at h
 | lf a b=>
  simp only[Tr.pairs,List.cons.injEq,Prod.mk.injEq,and_true]at h;rw[h.1,h.2]
 | nd l r=>
  have h2:(Tr.nd l r).pairs.length=1:=by rw[h];rfl
  rw[←Tr.len_pairs]at h2;have h3:2≤l.len+r.len:=ht.2.1;have e:(Tr.nd l r).len=l.len+r.len:=rfl;omega
theorem B8l {t:Tr} (ht:IsTree t [(u1.id,[h1 2])]):(t.root==z8 32)=false:=by
 have h:=C3g ht.ok (ht.prs.trans (by unfold pairsE;rw[List.map_cons,List.map_nil]));rw[h,F1y];exact D6x
theorem E2w:mkU (h1 1) 1 (h1 2)=u1:=by unfold u1;rfl
attribute [irreducible] u1
theorem By.zero {w:World} {lo B:Nat} {v:Value} {l:List UInt8} (h:By w lo B v l):By w 0 B v l:=by
 obtain⟨A,c,e,h1,h2,h3⟩:=h;exact ⟨A,c,e,h1,h2,h3.less (Nat.zero_le _)⟩
theorem E4e (w:World) {N:Nat} (hN:w.heap.size=N) {u:UV} (hu:u.Ok):US (w.alloc (Obj.cells (Ch u).toArray 63)) (w.alloc (Obj.cells (Ch u).toArray 63)).heap.size (.slice (some ⟨N,0,none⟩) 1 1) [u]:=by
 subst hN;exact .inr ⟨w.heap.size,[],1,rfl,⟨fun x hx=>(by simp at hx;subst hx;exact hu),by simpa using Bk.new w 63 (Ch u)⟩,by simp⟩
theorem D0z (w:World):(Instr.build 34 #[]).run Tryz.prog w=.ok (.agg #[.int .i64 0,.pointer none,.int .i64 0,.map none]) w:=by kernel_rfl
attribute [local go_sem ↓ high] Ju Uf
theorem C4w (w:World):Calls Tryz.prog 7 #[] w fun x w'=>x=.returned (.bool true)∧Below w.heap.size w w':=by
 have cM:=D0z;go_enter Tryz.func7,Tryz.ntmps7;go_wp2_with fail;refine (B4d (h1 1) 1 (h1 2) (Lf 1) (Lf 2) w).mono ?_;rintro x w2 ⟨rfl,b2⟩;rw[E2w];obtain⟨u,hu⟩:=E9 (u1);have aI:u.Ok:=by rw[hu];exact F0s
 have cA:Hid (applyE [u] []=[(u.id,[h1 2])]):=Lib.hid (by rw[hu];exact B5y);have bF:Hid (lookE [(u.id,[h1 2])] u.id=[h1 2]):=Lib.hid (by rw[hu];exact B7s);have cB:Hid (∀ {t:Tr},IsTree t [(u.id,[h1 2])]→(t.root==z8 32)=false):=Lib.hid (by rw[hu];exact B8l);rw[←hu];clear hu;have bO:=aI.len;have bG:=aI.id;have aJ:=(Bk.new w2 63 (Ch (Qj 129))).canvc (n:=129) (Kd _).len;obtain⟨w3,aN⟩:=E9 (C4 (w2.alloc (Obj.cells (Ch (Qj 129)).toArray 63)) ⟨w2.heap.size,0,none⟩ (Ch u));have ku:Bk w3 w2.heap.size 63 (Ch u):=by rw[aN];exact (Bk.new w2 63 (Ch (Qj 129))).putvc (n:=129) (Kd _).len bO
 have b3:Below w2.heap.size w2 w3:=by rw[aN];exact C0 (Bh _ _) (Nat.le_refl _) _
 have B3:=Q5 b2 b3;have bH:w3.heap.size=w2.heap.size+1:=by rw[aN];simp
 have r3:=ku.rowvc (n:=129) bO;rw[aN]at r3;go_wp2_with fail;rw[←aN];clear aN aJ r3 b3;have bH:=Lib.hid bH;generalize w2.heap.size=gu at *;have B4:=B3.alloc B3.size (Obj.cells (Ch u).toArray 63);have bP:=ku.alloc (Obj.cells (Ch u).toArray 63);refine (A3y _ 0 [] 0 [u] _ (w3.alloc (Obj.cells (Ch u).toArray 63)) (DirIs.nil _) (E4e w3 bH.out aI) (by omega) (by simp) (by simp) (fun x=>by simp[lookE])).mono ?_;rintro x w5 ⟨dv,rfl,hD,b5⟩;have hD:DirIs w5 dv 1 [(u.id,[h1 2])] 1:=by rw[←cA.out];exact hD
 obtain⟨ap,mb,rfl⟩:=hD.form;rw[show ((1:Nat):Int)=1 from rfl]at hD ⊢;have B5:=Q5 B4 b5;have bQ:=bP.bl b5;clear b5 bP B4 ku B3 b2;have k0:=Bk.new w5 34 [.int .i64 0,.pointer none,.int .i64 0,.map none];have aJ:=Mh 4 k0 (by simp);obtain⟨w6,aS⟩:=E9 (C4 (w5.alloc (Obj.cells #[.int .i64 0,.pointer none,.int .i64 0,.map none] 34)) ⟨w5.heap.size,0,none⟩ [.int .i64 1,.pointer ap,.int .i64 0,.map mb]);have kd:Bk w6 w5.heap.size 34 [.int .i64 1,.pointer ap,.int .i64 0,.map mb]:=by rw[aS];exact k0.puts (by simp)
 have b6:Below w5.heap.size w5 w6:=by rw[aS];exact C0 (Bh _ _) (Nat.le_refl _) _
 have bI:=hD.up b6;have bJ:=bQ.bl b6;have B6:=Q5 B5 b6;have r4:C8 w6 ⟨w5.heap.size,0,none⟩ 4=some [.int .i64 1,.pointer ap,.int .i64 0,.map mb]:=kd.rows;have r5:=UV.loadid bJ aI;rw[aS]at r4 r5;clear k0 hD bQ B5 b6;go_wp2_with fail;rw[←aS];clear aS aJ r4 r5;generalize w5.heap.size=gd at *;refine (Xj bI u.id bG (by rw[bF.out];decide)).mono ?_;rintro x w7 ⟨kv,rfl,ho,b7⟩;rw[bF.out]at ho;have hH:=ho.hs;obtain⟨A,c,rfl,_,_⟩:=ho.form;obtain⟨gk,ok,rfl,cC,bR⟩:=Hs.at_ (hH.less (Nat.zero_le _)) (m:=0) (k:=h1 2) rfl;have bS:=bI.up b7;have bT:=bJ.bl b7;have bU:=kd.bl b7;have B7:=Q5 B6 b7;have bK:([h1 2]:List (List UInt8)).length=1:=rfl;rw[bK];clear bI bJ kd B6 b7 ho hH;go_wp2_with fail;have S0:=Kg w7;have bL:=bS.up S0;have bV:=bT.bl S0;have bX:=bU.bl S0;have B8:=Q5 B7 S0;have aT:C8 w7.drew ⟨gk,ok,none⟩ 32=some (c8 (h1 2)):=by have:=bR;rwa [Nat.zero_mul,Nat.add_zero]at this
 have aU:gk<w7.drew.heap.size:=cC;have cN:=Lf 2;obtain⟨t,ht⟩:=bL.tree;have HT:=Lib.hid ht;have cO:=t.root_length;have cP:=cB.out ht;clear bS bT bU B7 bR ht;refine Jh (fun X=>Bk X gd 34 [.int .i64 1,.pointer ap,.int .i64 0,.map mb]∧Bk X gu 63 (Ch u)∧C8 X ⟨gk,ok,none⟩ 32=some (c8 (h1 2))) ?_;refine Fs (A:=?cQ) [0] ⟨bX,bV,aT⟩ (fun X hX=>?cD) ?cR;case cD=>have f1:C8 X ⟨gd,0,none⟩ 4=some [.int .i64 1,.pointer ap,.int .i64 0,.map mb]:=hX.1.rows;have f2:=UV.loadid hX.2.1 aI;have f3:=hX.2.2;exact Gq
 refine Ci 1 fun Q' hQ'=>?_;dsimp only[C7];have aA:=Lib.hid hQ';clear hQ';go_wp2_with fail;refine (A7z bL).mono ?_;rintro x w9 ⟨rfl,b9⟩;have bY:=bL.up b9;have bM:=bV.bl b9;have bN:=bX.bl b9;have B9:=Q5 B8 b9;have aK:=(N6 (a:=⟨gk,ok,none⟩) b9 aU).trans aT;have aV:=Nat.lt_of_lt_of_le aU b9.size;go_wp2_with fail;refine aA.out _ _ ⟨bN,bM,aK⟩ ?_;clear aA;refine Fs (A:=?cS) [2,3,4,5,6,7,8,9,10,11,12,13,14,15,16,18] ⟨bN,bM,aK⟩ (fun X hX=>?cE) ?cT;case cE=>
  have f1:C8 X ⟨gd,0,none⟩ 4=some [.int .i64 1,.pointer ap,.int .i64 0,.map mb]:=hX.1.rows;have f2:=UV.loadid hX.2.1 aI;have f3:=hX.2.2;simp only[List.append_eq,Vb,pick,Wt];repeat (go_big_quiet_step (fail))
  refine wpQuiet_nil ?_;rfl
 refine Ci 17 fun Q' hQ'=>?_;dsimp only[C7];have aA:=Lib.hid hQ';clear hQ';go_wp2_with fail;refine (A2i bY HT.out).mono ?_;rintro x cU ⟨rfl,aO⟩;have aW:=bY.up aO;have aL:=bM.bl aO;have aM:=bN.bl aO;have cF:=Q5 B9 aO;have aB:=(N6 (a:=⟨gk,ok,none⟩) aO aV).trans aK;have aC:=Nat.lt_of_lt_of_le aV aO.size;go_wp2_with fail;refine aA.out _ _ ⟨aM,aL,aB⟩ ?_;clear aA;refine Fs (A:=?cV) [19,20,21,22,24,25,26,27,28] ⟨aM,aL,aB⟩ (fun X hX=>?cG) ?cW;case cG=>
  have f1:C8 X ⟨gd,0,none⟩ 4=some [.int .i64 1,.pointer ap,.int .i64 0,.map mb]:=hX.1.rows;have f2:=UV.loadid hX.2.1 aI;have f3:=hX.2.2;simp only[List.append_eq,Vb,pick,Wt];repeat (go_big_quiet_step (fail))
  refine wpQuiet_nil ?_;rfl
 refine Ci 23 fun Q' hQ'=>?_;dsimp only[C7];have aA:=Lib.hid hQ';clear hQ';go_wp2_with fail;refine (A2i aW HT.out).mono ?_;rintro x cX ⟨rfl,aP⟩;have aX:=aW.up aP;have aY:=aL.bl aP;have aZ:=aM.bl aP;have cH:=Q5 cF aP;have aD:=(N6 (a:=⟨gk,ok,none⟩) aP aC).trans aB;have aE:=Nat.lt_of_lt_of_le aC aP.size;go_wp2_with fail;refine aA.out _ _ ⟨aZ,aY,aD⟩ ?_;clear aA;refine Ci 29 fun Q' hQ'=>?_;dsimp only[C7];have aA:=Lib.hid hQ';clear hQ';go_wp2_with fail;refine (B8a aX HT.out u.id bG (by rw[bF.out];decide) (by simp)).mono ?_;rintro x cY ⟨av,pv,rfl,ho,hp,aQ⟩;have HO:=Lib.hid (ho.hs.less (Nat.zero_le _));have HP:=Lib.hid (hp.by_);obtain⟨Aa,ca,rfl,_,_⟩:=ho.form;obtain⟨Ap,cp,rfl,_,_⟩:=hp.form;clear ho hp;have bA:=aX.up aQ;have bB:=aY.bl aQ;have bC:=aZ.bl aQ;have cI:=Q5 cH aQ;have aF:=(N6 (a:=⟨gk,ok,none⟩) aQ aE).trans aD;have aG:=Nat.lt_of_lt_of_le aE aQ.size;go_wp2_with fail;refine aA.out _ _ ⟨bC,bB,aF⟩ ?_;clear aA;refine Ci 30 fun Q' hQ'=>?_;dsimp only[C7];have aA:=Lib.hid hQ';clear hQ';go_wp2_with fail;refine (C4k HT.out bA.okE u.id bG (by rw[bF.out];decide) _ _ HO.out (By.zero HP.out)).mono ?_;rintro x cZ ⟨rfl,aR⟩;have cJ:=bA.up aR;have bD:=bB.bl aR;have bE:=bC.bl aR;have cK:=Q5 cI aR;have aH:=(N6 (a:=⟨gk,ok,none⟩) aR aG).trans aF;have bZ:=Nat.lt_of_lt_of_le aG aR.size;go_wp2_with fail
 refine aA.out _ _ ⟨bE,bD,aH⟩ ?_;clear aA;refine Fs (A:=?dC) [31,32,33] ⟨bE,bD,aH⟩ (fun X hX=>?cL) ?dD;case cL=>
  simp only[List.append_eq,Vb,pick,Wt];repeat (go_big_quiet_step (fail))
  refine wpQuiet_nil ?_;rfl
 refine It ?_;go_wp2_with fail;go_ret;exact ⟨rfl,cK⟩
end
end Go.Proofs.YtlegpkdighoflaaGreat
