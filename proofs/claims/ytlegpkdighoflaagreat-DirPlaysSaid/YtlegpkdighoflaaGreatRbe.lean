/- A part of the proof of DirPlays. -/
import Derived.Test.YtlegpkdighoflaaGreatRbd
set_option linter.unusedVariables false
set_option linter.unusedSimpArgs false
set_option maxRecDepth 100000
set_option maxHeartbeats 40000000
namespace Go.Proofs.YtlegpkdighoflaaGreat
open Go Go.RowKit Sh
section
abbrev En := List UInt8 × List (List UInt8)
def lookE:List En→List UInt8→List (List UInt8)
 | [],_=>[]
 | q::L,x=>if q.1=x then q.2 else lookE L x
def pairsE (L:List En):List Pr:=L.map fun q=>(q.1,Dd q.2)
noncomputable def Ck (id key:List UInt8) (L:List En):List En:=(L.filter fun q=>Ct q.1 id)++[(id,lookE L id++[key])]++(L.filter fun q=>Ct id q.1)
structure OkE (L : List En) : Prop where
 id:∀q∈L,q.1.length=32
 one:∀q∈L,0<q.2.length
 key:∀q∈L,∀k∈q.2,k.length=32
 rise:L.Pairwise fun x y=>klt x.1 y.1
theorem OkE.nil:OkE []:=⟨by simp,by simp,by simp,List.Pairwise.nil⟩
theorem Gd:∀ {L:List En},L.Pairwise (fun x y=>klt x.1 y.1)→∀q∈L,lookE L q.1=q.2
 | [],_,q,h=>by cases h
 | p::L,hp,q,h=>by
  rw[List.pairwise_cons]at hp;unfold lookE;rcases List.mem_cons.1 h with rfl | h
  ·rw[if_pos rfl]
  ·rw[if_neg (hp.1 q h).ne];exact Gd hp.2 q h
theorem Ly:∀ {L:List En} {x:List UInt8},(∀q∈L,q.1≠x)→lookE L x=[]
 | [],_,_=>rfl
 | p::L,x,h=>by
  unfold lookE;rw[if_neg (h p (by simp))];exact Ly fun q hq=>h q (by simp[hq])
theorem C6i {L:List En} (hk:∀q∈L,∀k∈q.2,k.length=32) (x:List UInt8):∀k∈lookE L x,k.length=32:=by
 induction L with
 | nil=>intro k h;cases h
 | cons p L ih=>
  unfold lookE;split
  ·exact hk p (by simp)
  ·exact ih fun q hq=>hk q (by simp[hq])
section
variable {L : List En} {id key : List UInt8}
theorem Ku (ok:OkE L) (hid:id.length=32) (q:En):q∈Ck id key L↔q=(id,lookE L id++[key])∨(q∈L∧q.1≠id):=by
 unfold Ck;simp only[List.mem_append,List.mem_filter,List.mem_singleton];constructor
 ·rintro ((⟨h1,h2⟩ | rfl) | ⟨h1,h2⟩)
  ·exact .inr ⟨h1,(P8.1 h2).ne⟩
  ·exact .inl rfl
  ·exact .inr ⟨h1,fun e=>(P8.1 h2).ne e.symm⟩
 ·rintro (rfl | ⟨h1,h2⟩)
  ·exact .inl (.inr rfl)
  ·rcases klt.total (ok.id q h1) hid h2 with h3 | h3
   ·exact .inl (.inl ⟨h1,P8.2 h3⟩)
   ·exact .inr ⟨h1,P8.2 h3⟩
theorem OkE.with (ok:OkE L) (hid:id.length=32) (hkey:key.length=32):OkE (Ck id key L):=by
 refine ⟨fun q hq=>?_,fun q hq=>?_,fun q hq=>?_,?_⟩
 ·rcases (Ku ok hid q).1 hq with rfl | h
  ·exact hid
  ·exact ok.id q h.1
 ·rcases (Ku ok hid q).1 hq with rfl | h
  ·simp
  ·exact ok.one q h.1
 ·rcases (Ku ok hid q).1 hq with rfl | h
  ·intro k hk;rcases List.mem_append.1 hk with hk | hk
   ·exact C6i ok.key id k hk
   ·simp at hk;subst hk;exact hkey
  ·exact ok.key q h.1
 ·unfold Ck;rw[List.pairwise_append,List.pairwise_append];refine ⟨⟨ok.rise.sublist List.filter_sublist,List.pairwise_singleton _ _,?_⟩,ok.rise.sublist List.filter_sublist,?_⟩
  ·intro a ha b hb;simp only[List.mem_singleton]at hb;subst hb;exact P8.1 (List.mem_filter.1 ha).2
  ·intro a ha b hb;have h2:=P8.1 (List.mem_filter.1 hb).2;rcases List.mem_append.1 ha with ha | ha
   ·exact (P8.1 (List.mem_filter.1 ha).2).trans h2
   ·simp only[List.mem_singleton]at ha;subst ha;exact h2
theorem Lt (ok:OkE L) (hid:id.length=32) (hkey:key.length=32) (x:List UInt8):lookE (Ck id key L) x=if x=id then lookE L id++[key] else lookE L x:=by
 have aA:=ok.with (id:=id) (key:=key) hid hkey;by_cases e:x=id
 ·subst e;rw[if_pos rfl];exact Gd aA.rise _ ((Ku ok hid _).2 (.inl rfl))
 ·rw[if_neg e];by_cases h:∃q∈L,q.1=x
  ·obtain⟨q,hq,rfl⟩:=h;rw[Gd ok.rise q hq];exact Gd aA.rise q ((Ku ok hid _).2 (.inr ⟨hq,e⟩))
  ·have h':∀q∈L,q.1≠x:=fun q hq he=>h ⟨q,hq,he⟩;rw[Ly h'];refine Ly fun q hq=>?_;rcases (Ku ok hid q).1 hq with rfl | h2
   ·exact fun he=>e he.symm
   ·exact h' q h2.1
theorem B8w:pairsE (Ck id key L)=B2b id (Dd (lookE L id++[key])) (pairsE L):=by
 unfold pairsE Ck B2b;rw[List.map_append,List.map_append,List.filter_map,List.filter_map];rfl
theorem Cg:(pairsE L).length=L.length:=by simp[pairsE]
theorem B2e {t:Tr} (okt:Okt t) (ok:OkE L) (hp:t.pairs=pairsE L) (x:List UInt8):t.look x 0=if (lookE L x).length=0 then none else some (Dd (lookE L x)):=by
 by_cases h:∃q∈L,q.1=x
 ·obtain⟨q,hq,rfl⟩:=h;rw[Gd ok.rise q hq,if_neg (Nat.ne_of_gt (ok.one q hq)),A7r okt,hp];exact List.mem_map.2 ⟨q,hq,rfl⟩
 ·have h':∀q∈L,q.1≠x:=fun q hq he=>h ⟨q,hq,he⟩;rw[Ly h',if_pos (show ([]:List (List UInt8)).length=0 from rfl)];cases hl:t.look x 0 with
  | none=>rfl
  | some v=>
   exfalso;rw[A7r okt,hp]at hl;obtain⟨q,hq,e⟩:=List.mem_map.1 hl;injection e with e1 e2;exact h' q hq e1
theorem A0d {t:Tr} (okt:Okt t) (hp:t.pairs=pairsE L) (hid:id.length=32):Okt (A3h t id (Dd (lookE L id++[key])))∧(A3h t id (Dd (lookE L id++[key]))).pairs=pairsE (Ck id key L):=by
 refine ⟨okt.put hid (Gh _),?_⟩;rw[B8w,←hp];exact (C4j hid (Gh _) okt).symm
theorem B4k {t:Tr} (okt:Okt t) (hp:t.pairs=pairsE L) (hid:id.length=32):(Ck id key L).length≤L.length+1:=by
 have h:=C7o (v:=Dd (lookE L id++[key])) okt hid;have h2:=(A0d (key:=key) okt hp hid).2;rw[Tr.len_pairs,h2,Cg,Tr.len_pairs,hp,Cg]at h;exact h
end
noncomputable def Jv (L:List En) (u:UV):List En:=if Hn (lookE L u.id) u then Ck u.id u.key L else L
noncomputable def applyE (us:List UV) (L:List En):List En:=us.foldl Jv L
theorem Ox {ks:List (List UInt8)} {u:UV}:Lx ks u=0↔Hn ks u=true:=by
 unfold Lx Hn;cases h:signedB u
 ·simp
 ·by_cases h2:u.ver=(ks.length:Int)+1<;>simp[h2]
theorem A7e {ks:List (List UInt8)} {u:UV} (h:Hn ks u=true):Ms ks u=ks++[u.key]:=if_pos h
end
section
structure Sv where
 a:Option Addr
 n:Nat
 c:Nat
def Sv.v (s:Sv):Value:=.slice s.a s.n s.c
structure Rw where
 id:List UInt8
 s:Sv
def Rw.cells (r:Rw):List Value:=c8 r.id++[r.s.v]
def Rw.V (r:Rw):Value:=.agg r.cells.toArray
def rwz:Rw:=⟨z8 32,⟨none,0,0⟩⟩
theorem Rw.len {r:Rw} (h:r.id.length=32):r.cells.length=33:=by simp[Rw.cells,h]
theorem Rw.one (r:Rw):∀x∈r.cells,x.oneCell'=true:=by
 intro x hx;simp only[Rw.cells,List.mem_append,List.mem_singleton]at hx;rcases hx with hx | rfl
 ·obtain⟨y,_,rfl⟩:=List.mem_map.1 hx;rfl
 ·rfl
theorem B4p:(Tryz.prog.info? 44).map (·.size)=some 33:=by kernel_rfl
theorem B6j:((Tryz.prog.info? 44).bind (·.zero))=some rwz.V:=by kernel_rfl
theorem E0o:(Tryz.prog.info? 44).map (fun i=>(i.zero,i.size,i.bytes))=some (some rwz.V,33,56):=by kernel_rfl
theorem A4j:Tryz.prog.underlying 44=some (.struct (S4 Tryz.prog 44)):=by kernel_rfl
theorem B6z (w:World):(Fz (S4 Tryz.prog 44)).run Tryz.prog w=.ok #[(0,32),(32,1)] w:=by kernel_rfl
@[go_sem] theorem F8g (r : Rw) : Value.agg r.cells.toArray = r.V := rfl
@[go_sem] theorem E1p (n : Nat) (w : World) (raw : Result Next) (a : Addr) (r : Rw) : Cj n w raw (.pointer (some a)) r.V =
 if r.cells.length=n∧P7 w a n=true then .ok .skip (C4 w a r.cells) else raw:=by
 have h1:(r.cells.toArray.all (·.oneCell'))=true:=by rw[Array.all_eq_true'];intro x hx;exact r.one x (by simpa using hx)
 unfold Rw.V;rw[Vv,h1];simp only[List.size_toArray,true_and]
section
variable (w : World) (ρ : Operand → Value) (dst : Option Tmp) (ty : TypeId) (pos : String) (after : Array Edge) (guard : Option (Nat × Bool))
@[go_sem ↓ high] theorem E9c:RL' 44 33:=LL' A4j B4p
@[go_sem ↓ high] theorem E5i:RS' 44 33:=SS' B4p
@[go_sem ↓ high] theorem E5u:RA' 44 rwz.cells.toArray:=fun w ρ dst ty pos after guard=>O9 w ρ dst ty pos after guard 44 rwz.V B6j
end
noncomputable def D7r (w:World) (raw:Result Next) (a b:Value):Result Next:=match Dq a,b with
 | some i,.slice A n c=>if i.length=32 then .ok (.value (Rw.V ⟨i,⟨A,n,c⟩⟩)) w else raw
 | _,_=>raw
@[go_sem] theorem F5j (w : World) (raw : Result Next) (i : List UInt8) (A : Option Addr) (n c : Nat) (hi : i.length = 32) : D7r w raw (A8 i) (.slice A n c) = .ok (.value (Rw.V ⟨i, ⟨A, n, c⟩⟩)) w := by
 unfold D7r;simp only[Dm];simp[hi]
theorem E2n (i:List UInt8) (hi:i.length=32) (A:Option Addr) (n c:Nat) (w:World):(Instr.build 44 #[(0,A8 i),(1,.slice A n c)]).run Tryz.prog w=.ok (Rw.V ⟨i,⟨A,n,c⟩⟩) w:=by
 have aA:rwz.V.cells.toList=c8 (z8 32)++[.slice none 0 0]:=rfl;have h1:=U4 A4j B6j w (B6z w) #[(0,A8 i),(1,.slice A n c)] [(0,c8 i),(32,[.slice A n c])] (by
  rw[aA];exact ⟨by simp[hi],rfl,by simp[hi],by simp,rfl,by simp,trivial⟩)
 refine h1.trans (congrArg (fun (cs:List Value)=>Result.ok (Value.agg cs.toArray) w) ?_);rw[aA];simp[Hd,Bg,hi,List.take_append,List.drop_append,List.drop_eq_nil_of_le,List.take_of_length_le,Rw.cells,Sv.v,c8]
@[go_sem ↓ high] theorem E6p (w : World) (ρ : Operand → Value) (dst : Option Tmp) (ty : TypeId) (pos : String) (after : Array Edge) (guard : Option (Nat × Bool)) (x y : Operand) :
 (execOp ρ { dst,op:=.build 44 #[(0,x),(1,y)],type:=ty,pos,after,guard }).run Tryz.prog w=D7r w (L3 Tryz.prog ρ { dst,op:=.build 44 #[(0,x),(1,y)],type:=ty,pos,after,guard } w) (ρ x) (ρ y):=by
 generalize h0:ρ x=a;generalize h1:ρ y=b;unfold D7r;split
 ·rename_i i A n c g0
  replace g0:=U8 g0;split
  ·rename_i h
   refine N9 w ρ dst ty pos after guard _ _ _ ?_;simp only[List.map_toArray,List.map_cons,List.map_nil,h0,h1,g0];exact E2n i h A n c w
  ·rfl
 ·rfl
@[go_sem ↓ high] theorem F4a (w : World) (ρ : Operand → Value) (dst : Option Tmp) (ty : TypeId) (pos : String) (after : Array Edge) (guard : Option (Nat × Bool)) (x : Operand) :
 (execOp ρ { dst,op:=.buildSlice 35 1 #[(0,x)],type:=ty,pos,after,guard }).run Tryz.prog w=Jp 33 44 w (L3 Tryz.prog ρ { dst,op:=.buildSlice 35 1 #[(0,x)],type:=ty,pos,after,guard } w) (ρ x):=
 Nu w ρ dst ty pos after guard 35 44 33 56 rwz.V x Tryz.underlying35 E0o (by simp[Rw.V,rwz,Rw.cells,Value.cells]) (by decide) (by decide)
@[go_sem] theorem E9n (n : Nat) (e : TypeId) (w : World) (raw : Result Next) (r : Rw) (h : r.cells.length = n) : Jp n e w raw r.V = .ok (.value (.slice (some ⟨w.heap.size, 0, none⟩) 1 1)) (w.alloc (.cells r.cells.toArray e)) := by
 unfold Rw.V;rw[Zc,if_pos (by simpa using h)]
section
variable {w w' : World} {B B' : Nat} {v : Value} {R : List Rw} {L : List En} {r : Rw} {q : En}
def KdB (w:World) (B:Nat) (row:Option Nat) (T:TypeId):Prop:=∀g,row=some g→g<B∧∃cur fz,w.heap[g]?=some (.cells cur T fz)
theorem KdB.below {w w':World} {B:Nat} {row:Option Nat} {T:TypeId} (h:KdB w B row T) (hb:Below B w w'):KdB w' B row T:=fun g hg=>by
 obtain⟨h0,c,f,h1⟩:=h g hg;exact ⟨h0,c,f,(hb.block g h0).trans h1⟩
theorem KdB.more {w:World} {B B':Nat} {row:Option Nat} {T:TypeId} (h:KdB w B row T) (hB:B≤B'):KdB w B' row T:=fun g hg=>⟨Nat.lt_of_lt_of_le (h g hg).1 hB,(h g hg).2⟩
theorem KdB.setCell {w:World} {B:Nat} {row:Option Nat} {T:TypeId} (h:KdB w B row T) (p:Addr) (u:Value):KdB (w.setCell p u) B row T:=fun g hg=>by
 obtain⟨h0,c,f,h1⟩:=h g hg;refine ⟨h0,?_⟩;by_cases e:g=p.block
 ·subst e;simp[World.setCell,Array.getElem?_modify,h1]
 ·exact ⟨c,f,(Below.heap_setCell w p u g e).trans h1⟩
theorem KdB.putAt {B:Nat} {row:Option Nat} {T:TypeId} (g:Nat):∀(vs:List Value) (o:Nat) {w:World},KdB w B row T→KdB (C4 w ⟨g,o,none⟩ vs) B row T
 | [],_,_,h=>h
 | v::vs,o,w,h=>KdB.putAt g vs (o+1) (h.setCell ⟨g,o,none⟩ v)
theorem C2h {w:World} {T:TypeId} {base sz n:Nat} {v:Value} {xs:List Value} (h:w.ownsRow base T sz v n xs):KdB w w.heap.size v.ownBlock T:=by
 intro g hg;rcases h.2 with ⟨rfl,_⟩ | ⟨g',cap,cur,rfl,_,hh,_⟩
 ·cases hg
 ·injection hg with hg;subst hg;exact ⟨(Array.getElem?_eq_some_iff.1 hh).1,_,_,hh⟩
def HsT (w:World) (B:Nat) (v:Value) (ks:List (List UInt8)):Prop:=Hs w 0 B v ks∧KdB w B v.ownBlock 23
theorem HsT.below {w w':World} {B:Nat} {v:Value} {ks:List (List UInt8)} (h:HsT w B v ks) (hb:Below B w w'):HsT w' B v ks:=⟨h.1.below hb,h.2.below hb⟩
theorem HsT.more {w:World} {B B':Nat} {v:Value} {ks:List (List UInt8)} (h:HsT w B v ks) (hB:B≤B'):HsT w B' v ks:=⟨h.1.more hB,h.2.more hB⟩
def A6g (w:World) (B:Nat) (r:Rw) (q:En):Prop:=r.id=q.1∧q.1.length=32∧0<q.2.length∧HsT w B r.s.v q.2
def Cv (w:World) (B:Nat):List Rw→List En→Prop
 | [],[]=>True
 | r::R,q::L=>A6g w B r q∧Cv w B R L
 | _,_=>False
theorem A6g.below (h:A6g w B r q) (hb:Below B w w'):A6g w' B r q:=⟨h.1,h.2.1,h.2.2.1,h.2.2.2.below hb⟩
theorem A6g.more (h:A6g w B r q) (hB:B≤B'):A6g w B' r q:=⟨h.1,h.2.1,h.2.2.1,h.2.2.2.more hB⟩
theorem Cv.below:∀ {R:List Rw} {L:List En},Cv w B R L→Below B w w'→Cv w' B R L
 | [],[],_,_=>trivial
 | _::_,_::_,h,hb=>⟨h.1.below hb,Cv.below h.2 hb⟩
 | [],_::_,h,_=>h.elim
 | _::_,[],h,_=>h.elim
theorem Cv.more:∀ {R:List Rw} {L:List En},Cv w B R L→B≤B'→Cv w B' R L
 | [],[],_,_=>trivial
 | _::_,_::_,h,hb=>⟨h.1.more hb,Cv.more h.2 hb⟩
 | [],_::_,h,_=>h.elim
 | _::_,[],h,_=>h.elim
theorem Cv.len:∀ {R:List Rw} {L:List En},Cv w B R L→R.length=L.length
 | [],[],_=>rfl
 | _::R,_::L,h=>by simp[Cv.len h.2]
 | [],_::_,h=>h.elim
 | _::_,[],h=>h.elim
theorem Cv.at_:∀ {R:List Rw} {L:List En},Cv w B R L→∀ {i:Nat} {q:En},L[i]?=some q→∃r,R[i]?=some r∧A6g w B r q
 | [],[],_,i,q,h=>by simp at h
 | r::R,p::L,h,0,q,hq=>by simp at hq;subst hq;exact ⟨r,rfl,h.1⟩
 | r::R,p::L,h,i+1,q,hq=>by
  obtain⟨r',h1,h2⟩:=Cv.at_ h.2 (i:=i) (q:=q) (by simpa using hq);exact ⟨r',by simpa using h1,h2⟩
 | [],_::_,h,_,_,_=>h.elim
 | _::_,[],h,_,_,_=>h.elim
theorem Cv.ids:∀ {R:List Rw} {L:List En},Cv w B R L→∀r∈R,r.id.length=32
 | [],[],_,r,h=>by cases h
 | r::R,p::L,h,r',hr=>by
  rcases List.mem_cons.1 hr with rfl | hr
  ·rw[h.1.1];exact h.1.2.1
  ·exact Cv.ids h.2 r' hr
 | [],_::_,h,_,_=>h.elim
 | _::_,[],h,_,_=>h.elim
end
theorem D9n:∀ {R:List Rw},(∀r∈R,r.id.length=32)→(R.flatMap Rw.cells).length=R.length*33
 | [],_=>rfl
 | r::R,h=>by
  have hu:=Rw.len (h r (by simp));rw[List.flatMap_cons,List.length_append,D9n (fun x hx=>h x (by simp[hx])),hu,List.length_cons];omega
theorem F0l:∀ {R:List Rw},(∀r∈R,r.id.length=32)→∀ {i:Nat} {r:Rw},R[i]?=some r→((R.flatMap Rw.cells).drop (i*33)).take 33=r.cells
 | [],_,i,r,h=>by simp at h
 | x::R,h,0,r,hr=>by
  have hx:=Rw.len (h x (by simp));obtain rfl:x=r:=by simpa using hr
  rw[List.flatMap_cons,Nat.zero_mul,List.drop_zero,List.take_append_of_le_length (by omega),List.take_of_length_le (by omega)]
 | x::R,h,i+1,r,hr=>by
  have hx:=Rw.len (h x (by simp));have:=F0l (R:=R) (fun y hy=>h y (List.mem_cons_of_mem _ hy)) (i:=i) (r:=r) (by simpa using hr);rw[List.flatMap_cons,List.drop_append,List.drop_eq_nil_of_le (by omega),hx];have e:(i+1)*33-33=i*33:=by omega
  rw[e,List.nil_append,this]
def Es (w:World) (B:Nat) (v:Value) (L:List En):Prop:=∃R,Cv w B R L∧∃A c,v=.slice A L.length c∧L.length≤c∧c≤maxLen∧Rd w 0 B A (R.flatMap Rw.cells)∧KdB w B v.ownBlock 44
section
variable {w w' : World} {B B' : Nat} {v : Value} {L : List En}
theorem Es.nil (w:World) (B:Nat):Es w B (.slice none 0 0) []:=⟨[],trivial,none,0,rfl,Nat.le_refl _,by decide,.inl rfl,fun g h=>by cases h⟩
theorem Es.below (h:Es w B v L) (hb:Below B w w'):Es w' B v L:=by
 obtain⟨R,h1,A,c,h2,h3,h4,h5,h6⟩:=h;exact ⟨R,h1.below hb,A,c,h2,h3,h4,h5.below hb,h6.below hb⟩
theorem Es.more (h:Es w B v L) (hB:B≤B'):Es w B' v L:=by
 obtain⟨R,h1,A,c,h2,h3,h4,h5,h6⟩:=h;exact ⟨R,h1.more hB,A,c,h2,h3,h4,h5.more hB,h6.more hB⟩
theorem Es.up (h:Es w w.heap.size v L) (hb:Below w.heap.size w w'):Es w' w'.heap.size v L:=(h.below hb).more hb.size
theorem Es.form (h:Es w B v L):∃A c,v=.slice A L.length c∧L.length≤c∧c≤9223372036854775807:=by
 obtain⟨R,_,A,c,h1,h2,h3,_⟩:=h;exact ⟨A,c,h1,h2,by unfold maxLen at h3;exact h3⟩
theorem Es.at_ {A:Option Addr} {n c:Nat} (h:Es w B (.slice A n c) L) {i:Nat} {q:En} (hq:L[i]?=some q):∃g o r,A=some ⟨g,o,none⟩∧g<B∧A6g w B r q∧C8 w ⟨g,o+i*33,none⟩ 33=some r.cells:=by
 obtain⟨R,h1,A',c',h2,h3,h4,h5,_⟩:=h;injection h2 with h2;subst h2;obtain⟨r,hr,hi⟩:=h1.at_ hq;have hl:=D9n h1.ids;have aD:i<R.length:=(List.getElem?_eq_some_iff.1 hr).1;rcases h5 with h5 | ⟨g,o,h6,h7,h8,h9⟩
 ·rw[h5]at hl;simp at hl;omega
 ·have aB:=F0l h1.ids hr;have aA:=Rw.len (h1.ids r (List.mem_of_getElem? hr));refine ⟨g,o,r,h6,h8,hi,Cc.2 ⟨aA,fun j u hj=>?_⟩⟩;have aC:j<33:=by have:=(List.getElem?_eq_some_iff.1 hj).1;rw[aA]at this;exact this
  rw[Nat.add_assoc];refine h9 _ _ ?_;rw[←hj,←aB];simp only[List.getElem?_take,List.getElem?_drop,if_pos aC]
end
end
def KU (w:World) (v:Value) (ks:List (List UInt8)):Prop:=(v=.slice none 0 0∧ks=[])∨(Hs w 0 w.heap.size v ks∧0<ks.length)
theorem KU.form {w:World} {v:Value} {ks:List (List UInt8)} (h:KU w v ks):∃A c,v=.slice A ks.length c:=by
 rcases h with ⟨rfl,rfl⟩ | ⟨h,_⟩
 ·exact ⟨none,0,rfl⟩
 ·obtain⟨A,c,e,_⟩:=h.form;exact ⟨A,c,e⟩
theorem Rw.loadid {w:World} {g:Nat} {t:TypeId} {r:Rw} (K:Bk w g t r.cells) (h:r.id.length=32):C8 w ⟨g,0,none⟩ 32=some (c8 r.id):=by
 rw[K.rowMid 0 32 (by rw[Rw.len h];decide)];simp[Rw.cells,h]
theorem Rw.loads {w:World} {g:Nat} {t:TypeId} {r:Rw} (K:Bk w g t r.cells) (h:r.id.length=32):w.cell? ⟨g,32,none⟩=some (.slice r.s.a r.s.n r.s.c):=by
 refine K.at_ ?_;simp[Rw.cells,h,Sv.v]
theorem Rw.can {w:World} {g:Nat} {t:TypeId} {r:Rw} (K:Bk w g t r.cells) (h:r.id.length=32):P7 w ⟨g,0,none⟩ 33=true:=K.can (by rw[Rw.len h];omega)
theorem Rw.put {w:World} {g:Nat} {t:TypeId} {r s:Rw} (K:Bk w g t r.cells) (h:r.id.length=32) (h':s.id.length=32):Bk (C4 w ⟨g,0,none⟩ s.cells) g t s.cells:=K.puts (by rw[Rw.len h,Rw.len h'])
theorem A0a:rwz.id.length=32:=by simp[rwz]
theorem B7z:∀ {L:List En} {id:List UInt8} {i:Nat} {q:En},L[i]?=some q→lookE L id=lookE (L.drop i) id→q.1≠id→lookE L id=lookE (L.drop (i+1)) id:=by
 intro L id i q hq h aA;rw[h];have e:L.drop i=q::L.drop (i+1):=by
  have hi:=(List.getElem?_eq_some_iff.1 hq);rw[List.drop_eq_getElem_cons hi.1,hi.2]
 rw[e];show (if q.1=id then q.2 else lookE (L.drop (i+1)) id)=_;rw[if_neg aA]
theorem A7l {L:List En} {id:List UInt8} {i:Nat} {q:En} (hq:L[i]?=some q) (h:lookE L id=lookE (L.drop i) id) (he:q.1=id):lookE L id=q.2:=by
 rw[h];have e:L.drop i=q::L.drop (i+1):=by
  have hi:=(List.getElem?_eq_some_iff.1 hq);rw[List.drop_eq_getElem_cons hi.1,hi.2]
 rw[e];show (if q.1=id then q.2 else lookE (L.drop (i+1)) id)=_;rw[if_pos he]
theorem C3y (e:Int) (ev:Value) (L:List En) (id:List UInt8) (hid:id.length=32) (w:World) (hE:Es w w.heap.size ev L) :
 Calls Tryz.prog 13 #[.agg #[.int .i64 e,ev],A8 id] w fun x w'=>∃r,x=.returned r∧KU w' r (lookE L id)∧Below w.heap.size w w':=by
 obtain⟨A,c,rfl,aG,aI⟩:=hE.form;have HE:=Lib.hid hE;obtain⟨n,hn⟩:=E9 (L.length);have HN:=Lib.hid hn;rw[←hn]at HE aG ⊢;clear hE hn;obtain⟨W0,aD⟩:=E9 ((w.alloc (Obj.cells #[.int .i64 e,.slice A n c] 37)).alloc (Obj.cells (c8 id).toArray 23));have hL:W0=O8 w [(37,[.int .i64 e,.slice A n c]),(23,c8 id)]:=aD;have B0:=Rf hL;have kd:=Um hL rfl;have ki:=Nm 1 hL rfl;clear hL;have d1:=kd.at_ (i:=1) (u:=.slice A n c) rfl;rw[aD]at d1;go_enter Tryz.func13,Tryz.ntmps13;go_wp2_with fail;rw[←aD];clear aD d1 kd;go_loopw [10] (fun x wr=>∃i:Nat,i≤n∧x=.int .i64 (i:Int)∧lookE L id=lookE (L.drop i) id∧Bk wr (w.heap.size+1) 23 (c8 id)∧Below w.heap.size w wr) (fun x _=>n-(intOf x).toNat)
 case atStart=>exact ⟨0,by omega,rfl,rfl,ki,B0⟩
 case round=>
  clear ki B0;obtain⟨i,hi,rfl,hl,ki,Br⟩:=hrel;by_cases hlt:i<n
  ·have hd:decide ((i:Int)<(n:Int))=true:=decide_eq_true (by omega);have aJ:=decide_eq_true hlt;obtain⟨q,hq⟩:∃q,L[i]?=some q:=⟨_,List.getElem?_eq_getElem (by rw[←HN.out];exact hlt)⟩;obtain⟨g,o,r,rfl,hg,hr,aB⟩:=HE.out.at_ hq;have aA:r.id.length=32:=by rw[hr.1];exact hr.2.1
   have aK:=Rw.len aA;have aL:=(N6 (a:=⟨g,o+i*33,none⟩) Br hg).trans aB;have aC:=Lib.hid hr;have HQ:=Lib.hid hq;have aE:=Lib.hid hl;obtain⟨W,hW⟩:=E9 (C4 (wr.alloc (Obj.cells rwz.cells.toArray 44)) ⟨wr.heap.size,0,none⟩ r.cells);have k0:Bk (wr.alloc (Obj.cells rwz.cells.toArray 44)) wr.heap.size 44 rwz.cells:=Bk.new wr _ _;have aH:=Rw.can k0 A0a;have kW:Bk W wr.heap.size 44 r.cells:=by rw[hW];exact Rw.put k0 A0a aA
   have bW:Below wr.heap.size wr W:=by rw[hW];exact C0 (Bh _ _) (Nat.le_refl _) _
   have aF:=ki.bl bW;have f1:=Rw.loadid kW aA;have f2:=Rw.loads kW aA;have f3:=Bk.row8 (n:=32) aF hid;have BW:=Q5 Br bW;rw[hW]at f1 f2 f3;clear hr aB hq hl k0 ki;by_cases he:r.id=id
   ·have hb:(r.id==id)=true:=by simpa using he
    go_wp2_with fail;rw[←hW];go_ret;refine ⟨_,rfl,.inr ⟨?_,?_⟩,BW⟩
    ·rw[A7l HQ.out aE.out (by rw[←aC.out.1];exact he)];exact (aC.out.2.2.2.1.below BW).more BW.size
    ·rw[A7l HQ.out aE.out (by rw[←aC.out.1];exact he)];exact aC.out.2.2.1
   ·have hb:(r.id==id)=false:=by simpa using he
    go_wp2_with fail;rw[←hW];go_roundw;case rel=>exact ⟨i+1,by omega,by go_num,B7z HQ.out aE.out (by rw[←aC.out.1];exact he),aF,BW⟩
    case measure=>simp[intOf];omega
  ·obtain rfl:i=n:=by omega
   have hd:decide ((i:Int)<(i:Int))=false:=decide_eq_false (by omega);have hz:lookE L id=[]:=by rw[hl,List.drop_eq_nil_of_le (by rw[←HN.out];exact Nat.le_refl _)];rfl
   have HZ:=Lib.hid hz;clear hl hz;go_wp2_with fail;go_ret;exact ⟨_,rfl,.inl ⟨rfl,HZ.out⟩,Br⟩
theorem Fi.form2 {w:World} {base:Nat} {v:Value} {l:List Pr} (h:Fi w base v l):∃A c,v=.slice A l.length c∧l.length≤c∧c≤9223372036854775807:=Ai h.2
theorem B3z {L:List En} {i:Nat} {q:En} (hq:L[i]?=some q):pairsE (L.take (i+1))=pairsE (L.take i)++[(q.1,Dd q.2)]:=by
 have e1:L.take (i+1)=L.take i++[q]:=by rw[List.take_add_one,hq];rfl
 rw[e1];simp[pairsE]
theorem B8v (e:Int) (ev:Value) (L:List En) (w:World) (hE:Es w w.heap.size ev L) (hLn:L.length≤1000000) (hks:∀q∈L,q.2.length≤1000000) :
 Calls Tryz.prog 15 #[.agg #[.int .i64 e,ev]] w fun x w'=>∃v,x=.returned v∧Fi w' w.heap.size v (pairsE L)∧Below w.heap.size w w':=by
 obtain⟨A,c,rfl,aQ,aY⟩:=hE.form;have HE:=Lib.hid hE;obtain⟨n,hn⟩:=E9 (L.length);have HN:=Lib.hid hn;rw[←hn]at HE aQ hLn ⊢;clear hE hn;obtain⟨W0,aC⟩:=E9 (w.alloc (Obj.cells #[.int .i64 e,.slice A n c] 37));have B0:=BA' aC;have kd:Bk W0 w.heap.size 37 [.int .i64 e,.slice A n c]:=by rw[aC];exact Bk.new w _ [_,_]
 have d1:=kd.at_ (i:=1) (u:=.slice A n c) rfl;rw[aC]at d1;have z0:w.heap.size+1≤W0.heap.size:=by rw[aC];simp
 go_enter Tryz.func15,Tryz.ntmps15;go_wp2_with fail;rw[←aC];clear aC d1 kd;have O0:Fi W0 w.heap.size (.slice none 0 0) (pairsE (L.take 0)):=⟨fun p hp=>(by cases hp),World.ownsRow_nil _ _ _ _⟩;go_loopw [3,9] (fun v x wr=>∃i:Nat,i≤n∧x=.int .i64 (i:Int)∧Fi wr w.heap.size v (pairsE (L.take i))∧Below w.heap.size w wr∧w.heap.size+1≤wr.heap.size) (fun v x _=>n-(intOf x).toNat)
 case atStart=>exact ⟨0,by omega,rfl,O0,B0,z0⟩
 case round=>
  clear O0 B0 z0;obtain⟨i,hi,rfl,O,Br,zr⟩:=hrel;obtain⟨A',c',rfl,_,_⟩:=O.form2;have aF:(pairsE (L.take i)).length=i:=by rw[Cg,List.length_take,←HN.out];omega
  rw[aF]at O;by_cases hlt:i<n
  ·have hd:decide ((i:Int)<(n:Int))=true:=decide_eq_true (by omega);have aZ:=decide_eq_true hlt;obtain⟨q,hq⟩:∃q,L[i]?=some q:=⟨_,List.getElem?_eq_getElem (by rw[←HN.out];exact hlt)⟩;obtain⟨g,o,r,rfl,hg,hr,aD⟩:=HE.out.at_ hq;have aA:r.id.length=32:=by rw[hr.1];exact hr.2.1
   have bA:=Rw.len aA;have aR:=(N6 (a:=⟨g,o+i*33,none⟩) Br hg).trans aD;have aS:=hks q (List.mem_of_getElem? hq);have aM:=Lib.hid hr;have HQ:=Lib.hid (B3z hq);obtain⟨W,hW⟩:=E9 (C4 (wr.alloc (Obj.cells rwz.cells.toArray 44)) ⟨wr.heap.size,0,none⟩ r.cells);have k0:Bk (wr.alloc (Obj.cells rwz.cells.toArray 44)) wr.heap.size 44 rwz.cells:=Bk.new wr _ _;have aG:=Rw.can k0 A0a;have kW:Bk W wr.heap.size 44 r.cells:=by rw[hW];exact Rw.put k0 A0a aA
   have bW:Below wr.heap.size wr W:=by rw[hW];exact C0 (Bh _ _) (Nat.le_refl _) _
   have BW:=Q5 Br bW;have OW:=O.below bW (Nat.le_refl _);have zW:=Nat.le_trans zr bW.size;have aT:(Value.slice A' i c').ownBlock≠some wr.heap.size:=fun h=>by have:=(O.2.lt _ h).2;omega
   clear hr aD hq k0 O;go_wp2_with fail;rw[←hW];clear hW aG aR;generalize wr.heap.size=ge at *;have S0:=Kg W;have k1:=kW.drew;have O1:=OW.drewN 1;have O1:Fi W.drew w.heap.size (.slice A' i c') (pairsE (L.take i)):=O1;have B1:=Q5 BW S0;refine Jh (fun W=>Bk W ge 44 r.cells) ?_;refine Fs (A:=?bB) [0,1,2,3,4] k1 (fun W hW=>?aU) ?bC;case aU=>
    have f1:=Rw.loadid hW aA;have f2:=Rw.loads hW aA;exact Gq
   have aN:=(aM.out.2.2.2.1.below B1).more B1.size;have aV:=Lib.hid aN;clear aN;refine Ci 5 fun Q' hQ'=>?_;dsimp only[C7];have aE:=Lib.hid hQ';clear hQ';go_wp2_with fail;refine (B0h _ q.2 W.drew aV.out aS).mono ?_;rintro x w2 ⟨rfl,b2⟩;have k2:=k1.bl b2;have O2:=O1.below b2 (Nat.le_refl _);have B2:=Q5 B1 b2;have z2:=Nat.le_trans zW (Nat.le_trans S0.size b2.size);have aO:=Gh q.2;have aW:Gp (r.id,Dd q.2):=⟨aA,aO⟩;go_wp2_with fail;refine aE.out _ _ k2 ?_;clear aE;refine Ci 6 fun Q' hQ'=>?_;dsimp only[C7];go_wp2_with fail;refine hQ' _ _ k2 ?_;clear hQ';refine Ci 7 fun Q' hQ'=>?_;dsimp only[C7];have bD:(pb (r.id,Dd q.2)).length=64:=by simp[pb,aA,aO]
   go_wp2_with fail;refine hQ' _ _ (k2.alloc _) ?_;clear hQ';refine Ci 8 fun Q' hQ'=>?_;dsimp only[C7];have aE:=Lib.hid hQ';clear hQ';go_wp2_with (at_builtin;refine E1q rfl _ _ rfl rfl O2 (r.id,Dd q.2) aW _ rfl rfl rfl (by omega) (by omega) ?_;intro A3 c3 w3 aH aI aJ aK aP aL);have k3:=k2.grown aP (fun h=>aT h.symm);have B3:=B2.trans aK;rw[aF,aM.out.1,←HQ.out]at aJ;have aX:=Lib.hid aJ;have z3:=Nat.le_trans z2 aK.size;clear aJ aK aP aL O2 aH aI;refine aE.out _ _ k3 ?_;clear aE;refine Ci 9 fun Q' hQ'=>?_;dsimp only[C7];go_wp2_with fail;refine hQ' _ _ k3 ?_;clear hQ';refine It ?_;go_wp2_with fail;go_roundw;case rel=>exact ⟨i+1,by omega,by go_num,aX.out,B3,z3⟩
   case measure=>simp[intOf];omega
  ·obtain rfl:i=n:=by omega
   have hd:decide ((i:Int)<(i:Int))=false:=decide_eq_false (by omega);have aB:L.take i=L:=List.take_of_length_le (by rw[←HN.out];exact Nat.le_refl _);rw[aB]at O;have HO:=Lib.hid O;clear O aB;rw[aF];go_wp2_with fail;go_ret;exact ⟨_,rfl,HO.out,Br⟩
end Go.Proofs.YtlegpkdighoflaaGreat
