/- A part of the proof of ClientForks. -/
import Derived.Shelf.SlMaps.Clone
import Derived.Test.YtdfpoofbgjilgaaGreatVax
set_option linter.unusedVariables false
set_option linter.unusedSimpArgs false
set_option maxRecDepth 100000
set_option maxHeartbeats 40000000
namespace Go.Proofs.YtdfpoofbgjilgaaGreat
open Go Go.RowKit Sh
def RV (v:Value):Option (DataW Value×List MemPlace):=some (.held v,[])
def MapV (w:World) (b n:Nat) (m:List UInt8→Option Value):Prop:=∃D:DataW Value,w.ownsMap Tryz.prog 35 RV b n D∧
 ∀k:List UInt8,k.length=32→Maps.has D (Zz k)=(m k).isSome∧∀z,D.atKey (Zz k) z=(match m k with | some v=>.held v | none=>z)
def B2j (m:List UInt8→Option Value) (k:List UInt8) (v:Value):List UInt8→Option Value:=fun x=>if x=k then some v else m x
theorem MapV.made (w:World):MapV (w.alloc (.map #[] 0)) w.heap.size 0 (fun _=>none):=⟨.map [],World.ownsMap_made _ _ _ _,fun k hk=>⟨rfl,fun z=>rfl⟩⟩
theorem MapV.put {w:World} {b n:Nat} {m:List UInt8→Option Value} (h:MapV w b n m) {k:List UInt8} (hk:k.length=32) (v:Value) :
 ∃D:DataW Value,w.ownsMap Tryz.prog 35 RV b n D∧∀w',w'.ownsMap Tryz.prog 35 RV b (n+1) (D.put (Zz k) (.held v))→MapV w' b (n+1) (B2j m k v):=by
 obtain⟨D,hD,hl⟩:=h;refine ⟨D,hD,fun w' h'=>⟨_,h',fun k' hk'=>?_⟩⟩;unfold B2j;by_cases e:k'=k
 ·subst e;rw[if_pos rfl];exact ⟨Maps.has_put_same hD.isMap (A9x hk) _,fun z=>Maps.atKey_put_same hD.isMap (A9x hk) _ _⟩
 ·rw[if_neg e];have aA:=D5c hk' hk e;exact ⟨(Maps.has_put_other aA _).trans (hl k' hk').1,fun z=>(Maps.atKey_put_other aA _ _).trans ((hl k' hk').2 z)⟩
theorem MapV.kept {w w':World} {b n:Nat} {m:List UInt8→Option Value} {row:Option Nat} (h:MapV w b n m) (hg:w.grownBy w' row) (hne:some b≠row):MapV w' b n m:=by
 obtain⟨D,hD,h1⟩:=h;exact ⟨D,hD.kept hg hne,h1⟩
theorem MapV.lt {w:World} {b n:Nat} {m:List UInt8→Option Value} (h:MapV w b n m):b<w.heap.size:=by
 obtain⟨D,hD,h1⟩:=h;exact hD.lt
theorem MapV.below {w w':World} {b n B:Nat} {m:List UInt8→Option Value} (h:MapV w b n m) (hb:Below B w w') (hB:w.heap.size≤B):MapV w' b n m:=
 h.kept (row:=none) ⟨hb.os,hb.tape,hb.output,hb.size,fun k hk _=>hb.block k (by omega)⟩ (by simp)
theorem MapV.setCell {w:World} {b n:Nat} {m:List UInt8→Option Value} (h:MapV w b n m) {a:Addr} (ha:b≠a.block) (u:Value):MapV (w.setCell a u) b n m:=by
 obtain⟨D,hD,h1⟩:=h;exact ⟨D,hD.setCell ha u,h1⟩
theorem A7b (w:World):(zeroValue 26).run Tryz.prog w=.ok (.slice none 0 0) w:=by kernel_rfl
theorem MapV.look {w:World} {b n:Nat} {m:List UInt8→Option Value} (h:MapV w b n m) {k:List UInt8} (hk:k.length=32) :
 (Instr.lookup 54 (.map (some b)) (A8 k) false).run Tryz.prog w=.ok ((m k).getD (.slice none 0 0)) w:=by
 obtain⟨D,⟨es,aA,hb,F,_,rfl⟩,hl⟩:=h;obtain⟨_,h2⟩:=hl k hk;rcases Maps.fit_look false Gq Tryz.underlying54 (A7b w) hb F (Kp hk) with ⟨hrun,_,hat⟩ | ⟨e0,y,_,_,hrun,hRv,hat,_⟩
 ·cases hm:m k with
  | none=>exact hrun
  | some v=>
   have h3:=h2 .nil;rw[hat,hm]at h3;cases h3
 ·have hy:y.1=.held e0.val:=by have:some (DataW.held e0.val,([]:List MemPlace))=some y:=hRv;injection this with this;rw[←this]
  cases hm:m k with
  | none=>
   have h3:=h2 .nil;rw[hat,hm,hy]at h3;cases h3
  | some v=>
   have h3:=h2 .nil;rw[hat,hm,hy]at h3;injection h3 with h3;rw[←h3];exact hrun
def MV (w:World) (mv:Value) (m:List UInt8→Option Value):Prop:=(mv=.map none∧∀k,m k=none)∨∃b n,mv=.map (some b)∧MapV w b n m
theorem MV.up {w w':World} {mv:Value} {m:List UInt8→Option Value} (h:MV w mv m) (hb:Below w.heap.size w w'):MV w' mv m:=by
 rcases h with h | ⟨b,n,h1,h2⟩
 ·exact .inl h
 ·exact .inr ⟨b,n,h1,h2.below hb (Nat.le_refl _)⟩
theorem MV.look {w:World} {mv:Value} {m:List UInt8→Option Value} (h:MV w mv m) {k:List UInt8} (hk:k.length=32) :
 (Instr.lookup 54 mv (A8 k) false).run Tryz.prog w=.ok ((m k).getD (.slice none 0 0)) w:=by
 rcases h with ⟨rfl,hm⟩ | ⟨b,n,rfl,h2⟩
 ·rw[hm k];exact Maps.look_nil false Gq Tryz.underlying54 (A7b w) (Kp hk)
 ·exact h2.look hk
def Zq (w:World) (m:List UInt8→Option Value) (K:List UInt8→List (List UInt8)):Prop:=∀k,KS w ((m k).getD (.slice none 0 0)) (K k)
theorem Zq.up {w w':World} {m:List UInt8→Option Value} {K:List UInt8→List (List UInt8)} (h:Zq w m K) (hb:Below w.heap.size w w'):Zq w' m K:=fun k=>(h k).up hb
theorem C3l (e:Int) (ap:Option Addr) (d:Int) (mv:Value) (hmv:mv=.map none∨∃b,mv=.map (some b)) (m:List UInt8→Option Value) (K:List UInt8→List (List UInt8)) (id:List UInt8) (hid:id.length=32) (hkn:(K id).length≤1099511627) (w:World) (hm:MV w mv m) (hK:Zq w m K) :
 Calls Tryz.prog 40 #[.agg #[.int .i64 e,.pointer ap,.int .i64 d,mv],A8 id] w fun x w'=>∃u,x=.returned u∧(Ad w' w.heap.size u (K id)∧(K id=[]→u=.slice none 0 0))∧Below w.heap.size w w':=by
 obtain⟨w0,aB⟩:∃x,x=(w.alloc (Obj.cells #[.int .i64 e,.pointer ap,.int .i64 d,mv] 56)).alloc (Obj.cells (c8 id).toArray 35):=⟨_,rfl⟩;have B0:Below w.heap.size w w0:=by rw[aB];exact ((Below.refl _ _).alloc (Nat.le_refl _) _).alloc (by simp) _
 have aA:=(hm.up B0).look hid;have aC:=Lib.hid ((hK.up B0) id);have I0:Bk w0 (w.heap.size+1) 35 (c8 id):=by rw[aB];simpa using Bk.new (w.alloc (Obj.cells #[.int .i64 e,.pointer ap,.int .i64 d,mv] 56)) 35 (c8 id)
 have ri:=Bk.row8 (n:=32) I0 hid;obtain⟨v,hv⟩:∃v,v=(m id).getD (.slice none 0 0):=⟨_,rfl⟩;rw[←hv]at aA aC;rw[aB]at aA ri;clear hv I0 hm hK;rcases hmv with rfl | ⟨b,rfl⟩;all_goals
  go_enter Tryz.func40,Tryz.ntmps40;go_wp2_with fail;rw[←aB];refine (A1j v _ w0 aC.out hkn).mono ?_;rintro x w1 ⟨u,rfl,⟨O1,O2⟩,b1⟩;have O:=Lib.hid (And.intro (Ad.less O1 B0.size) O2);clear O1 O2;go_wp2_with fail;go_ret;exact ⟨_,rfl,O.out,C1 B0 b1 B0.size⟩
theorem C1p (e:Int) (ap:Option Addr) (d:Int) (mv:Value) (hmv:mv=.map none∨∃b,mv=.map (some b)) (m:List UInt8→Option Value) (K:List UInt8→List (List UInt8)) (id:List UInt8) (hid:id.length=32) (hkn:(K id).length≤1099511627) (w:World) (hm:MV w mv m) (hK:Zq w m K) :
 Calls Tryz.prog 40 #[.agg #[.int .i64 e,.pointer ap,.int .i64 d,mv],A8 id] w fun x w'=>∃u,x=.returned u∧Ad w' w.heap.size u (K id)∧Below w.heap.size w w':=
 (C3l e ap d mv hmv m K id hid hkn w hm hK).mono fun _ _ ⟨u,e,o,b⟩=>⟨u,e,o.1,b⟩
theorem B7e (w:World):Calls Tryz.prog 54 #[.map none] w fun e w'=>e=.returned (.map none)∧w=w':=by
 have hq:=fun w=>run_eql_map_nil_sl (P:=Tryz.prog) w 54 _ _ none Tryz.underlying54;go_enter Tryz.func54,Tryz.ntmps54;go_wp2;go_ret;exact ⟨rfl,rfl⟩
theorem A8z (b:Nat) (es:Array MapEntry) (clock:Nat) (w:World) (hb:w.heap[b]?=some (.map es clock)) :
 Calls Tryz.prog 54 #[.map (some b)] w fun e w'=>e=.returned (.map (some w.heap.size))∧w'=w.alloc (.map es clock):=by
 have hq:=fun w=>run_eql_map_nil_sl (P:=Tryz.prog) w 54 _ _ (some b) Tryz.underlying54;have aA:(callFunc 102 #[.iface 54 (.map (some b))]).run Tryz.prog w=.ok (.value (.iface 54 (.map (some w.heap.size)))) (w.alloc (.map es clock)):=by rw[run_callFunc_extern Tryz.func102 (by kernel_rfl) (by kernel_rfl) (by kernel_rfl) (e:=Extern.MapsClone.clone) (by kernel_rfl),run_maps_clone_sl w 54 hb];rfl
 have aB:=fun (W:World) (v:Value)=>run_typeAssert_map_sl (P:=Tryz.prog) W 54 20 _ _ v Tryz.underlying54;go_enter Tryz.func54,Tryz.ntmps54;go_wp2;go_ret;exact ⟨rfl,rfl⟩
section
abbrev En := List UInt8 × List (List UInt8)
def lookE:List En→List UInt8→List (List UInt8)
 | [],_=>[]
 | q::L,x=>if q.1=x then q.2 else lookE L x
def pairsE (L:List En):List Pr:=L.map fun q=>(q.1,Ah q.2)
noncomputable def Ea (id key:List UInt8) (L:List En):List En:=(L.filter fun q=>Se q.1 id)++[(id,lookE L id++[key])]++(L.filter fun q=>Se id q.1)
structure OkE (L : List En) : Prop where
 id:∀q∈L,q.1.length=32
 one:∀q∈L,0<q.2.length
 key:∀q∈L,∀k∈q.2,k.length=32
 rise:L.Pairwise fun x y=>klt x.1 y.1
theorem OkE.nil:OkE []:=⟨by simp,by simp,by simp,List.Pairwise.nil⟩
theorem Jm:∀ {L:List En},L.Pairwise (fun x y=>klt x.1 y.1)→∀q∈L,lookE L q.1=q.2
 | [],_,q,h=>by cases h
 | p::L,hp,q,h=>by
  rw[List.pairwise_cons]at hp;unfold lookE;rcases List.mem_cons.1 h with rfl | h
  ·rw[if_pos rfl]
  ·rw[if_neg (hp.1 q h).ne];exact Jm hp.2 q h
theorem Kh:∀ {L:List En} {x:List UInt8},(∀q∈L,q.1≠x)→lookE L x=[]
 | [],_,_=>rfl
 | p::L,x,h=>by
  unfold lookE;rw[if_neg (h p (by simp))];exact Kh fun q hq=>h q (by simp[hq])
theorem C2q {L:List En} (hk:∀q∈L,∀k∈q.2,k.length=32) (x:List UInt8):∀k∈lookE L x,k.length=32:=by
 induction L with
 | nil=>intro k h;cases h
 | cons p L ih=>
  unfold lookE;split
  ·exact hk p (by simp)
  ·exact ih fun q hq=>hk q (by simp[hq])
section
variable {L : List En} {id key : List UInt8}
theorem Gp (ok:OkE L) (hid:id.length=32) (q:En):q∈Ea id key L↔q=(id,lookE L id++[key])∨(q∈L∧q.1≠id):=by
 unfold Ea;simp only[List.mem_append,List.mem_filter,List.mem_singleton];constructor
 ·rintro ((⟨h1,h2⟩ | rfl) | ⟨h1,h2⟩)
  ·exact .inr ⟨h1,(U1.1 h2).ne⟩
  ·exact .inl rfl
  ·exact .inr ⟨h1,fun e=>(U1.1 h2).ne e.symm⟩
 ·rintro (rfl | ⟨h1,h2⟩)
  ·exact .inl (.inr rfl)
  ·rcases klt.total (ok.id q h1) hid h2 with h3 | h3
   ·exact .inl (.inl ⟨h1,U1.2 h3⟩)
   ·exact .inr ⟨h1,U1.2 h3⟩
theorem OkE.with (ok:OkE L) (hid:id.length=32) (hkey:key.length=32):OkE (Ea id key L):=by
 refine ⟨fun q hq=>?_,fun q hq=>?_,fun q hq=>?_,?_⟩
 ·rcases (Gp ok hid q).1 hq with rfl | h
  ·exact hid
  ·exact ok.id q h.1
 ·rcases (Gp ok hid q).1 hq with rfl | h
  ·simp
  ·exact ok.one q h.1
 ·rcases (Gp ok hid q).1 hq with rfl | h
  ·intro k hk;rcases List.mem_append.1 hk with hk | hk
   ·exact C2q ok.key id k hk
   ·simp at hk;subst hk;exact hkey
  ·exact ok.key q h.1
 ·unfold Ea;rw[List.pairwise_append,List.pairwise_append];refine ⟨⟨ok.rise.sublist List.filter_sublist,List.pairwise_singleton _ _,?_⟩,ok.rise.sublist List.filter_sublist,?_⟩
  ·intro a ha b hb;simp only[List.mem_singleton]at hb;subst hb;exact U1.1 (List.mem_filter.1 ha).2
  ·intro a ha b hb;have h2:=U1.1 (List.mem_filter.1 hb).2;rcases List.mem_append.1 ha with ha | ha
   ·exact (U1.1 (List.mem_filter.1 ha).2).trans h2
   ·simp only[List.mem_singleton]at ha;subst ha;exact h2
theorem Lf (ok:OkE L) (hid:id.length=32) (hkey:key.length=32) (x:List UInt8):lookE (Ea id key L) x=if x=id then lookE L id++[key] else lookE L x:=by
 have aA:=ok.with (id:=id) (key:=key) hid hkey;by_cases e:x=id
 ·subst e;rw[if_pos rfl];exact Jm aA.rise _ ((Gp ok hid _).2 (.inl rfl))
 ·rw[if_neg e];by_cases h:∃q∈L,q.1=x
  ·obtain⟨q,hq,rfl⟩:=h;rw[Jm ok.rise q hq];exact Jm aA.rise q ((Gp ok hid _).2 (.inr ⟨hq,e⟩))
  ·have h':∀q∈L,q.1≠x:=fun q hq he=>h ⟨q,hq,he⟩;rw[Kh h'];refine Kh fun q hq=>?_;rcases (Gp ok hid q).1 hq with rfl | h2
   ·exact fun he=>e he.symm
   ·exact h' q h2.1
theorem B4v:pairsE (Ea id key L)=B3n id (Ah (lookE L id++[key])) (pairsE L):=by
 unfold pairsE Ea B3n;rw[List.map_append,List.map_append,List.filter_map,List.filter_map];rfl
theorem Cr:(pairsE L).length=L.length:=by simp[pairsE]
theorem B2g {t:Tr} (okt:Okt t) (ok:OkE L) (hp:t.pairs=pairsE L) (x:List UInt8):t.look x 0=if (lookE L x).length=0 then none else some (Ah (lookE L x)):=by
 by_cases h:∃q∈L,q.1=x
 ·obtain⟨q,hq,rfl⟩:=h;rw[Jm ok.rise q hq,if_neg (Nat.ne_of_gt (ok.one q hq)),A4p okt,hp];exact List.mem_map.2 ⟨q,hq,rfl⟩
 ·have h':∀q∈L,q.1≠x:=fun q hq he=>h ⟨q,hq,he⟩;rw[Kh h',if_pos (show ([]:List (List UInt8)).length=0 from rfl)];cases hl:t.look x 0 with
  | none=>rfl
  | some v=>
   exfalso;rw[A4p okt,hp]at hl;obtain⟨q,hq,e⟩:=List.mem_map.1 hl;injection e with e1 e2;exact h' q hq e1
theorem Uy {t:Tr} (okt:Okt t) (hp:t.pairs=pairsE L) (hid:id.length=32):Okt (A1n t id (Ah (lookE L id++[key])))∧(A1n t id (Ah (lookE L id++[key]))).pairs=pairsE (Ea id key L):=by
 refine ⟨okt.put hid (Dn _),?_⟩;rw[B4v,←hp];exact (C1y hid (Dn _) okt).symm
theorem B3k {t:Tr} (okt:Okt t) (hp:t.pairs=pairsE L) (hid:id.length=32):(Ea id key L).length≤L.length+1:=by
 have h:=D1s (v:=Ah (lookE L id++[key])) okt hid;have h2:=(Uy (key:=key) okt hp hid).2;rw[Tr.len_pairs,h2,Cr,Tr.len_pairs,hp,Cr]at h;exact h
end
noncomputable def Ta (L:List En) (u:UV):List En:=if Ju (lookE L u.id) u then Ea u.id u.key L else L
noncomputable def applyE (us:List UV) (L:List En):List En:=us.foldl Ta L
theorem Kx {ks:List (List UInt8)} {u:UV}:Hx ks u=0↔Ju ks u=true:=by
 unfold Hx Ju;cases h:Z5 u
 ·simp
 ·by_cases h2:u.ver=(ks.length:Int)+1<;>simp[h2]
theorem A5b {ks:List (List UInt8)} {u:UV} (h:Ju ks u=true):Il ks u=ks++[u.key]:=if_pos h
end
section
structure Sv where
 a:Option Addr
 n:Nat
 c:Nat
def Sv.v (s:Sv):Value:=.slice s.a s.n s.c
structure Rw where
 id:List UInt8
 s:Sv
def Rw.cells (r:Rw):List Value:=c8 r.id++[r.s.v]
def Rw.V (r:Rw):Value:=.agg r.cells.toArray
def rwz:Rw:=⟨z8 32,⟨none,0,0⟩⟩
theorem B0i:(Tryz.prog.info? 144).map (·.size)=some 33:=by kernel_rfl
theorem B1g:((Tryz.prog.info? 144).bind (·.zero))=some rwz.V:=by kernel_rfl
theorem E7q:(Tryz.prog.info? 144).map (fun i=>(i.zero,i.size,i.bytes))=some (some rwz.V,33,56):=by kernel_rfl
theorem A0w:Tryz.prog.underlying 144=some (.struct (I2 Tryz.prog 144)):=by kernel_rfl
theorem B4l (w:World):(Z3 (I2 Tryz.prog 144)).run Tryz.prog w=.ok #[(0,32),(32,1)] w:=by kernel_rfl
@[go_sem] theorem F6l (r : Rw) : Value.agg r.cells.toArray = r.V := rfl
section
variable (w : World) (ρ : Operand → Value) (dst : Option Tmp) (ty : TypeId) (pos : String) (after : Array Edge) (guard : Option (Nat × Bool))
@[go_sem ↓ high] theorem F1w:RL' 144 33:=LL' A0w B0i
@[go_sem ↓ high] theorem E4d:RS' 144 33:=SS' B0i
@[go_sem ↓ high] theorem E3n:RA' 144 rwz.cells.toArray:=fun w ρ dst ty pos after guard=>I7 w ρ dst ty pos after guard 144 rwz.V B1g
end
noncomputable def E5p (w:World) (raw:Result Next) (a b:Value):Result Next:=match T5 a,b with
 | some i,.slice A n c=>if i.length=32 then .ok (.value (Rw.V ⟨i,⟨A,n,c⟩⟩)) w else raw
 | _,_=>raw
theorem E0w (i:List UInt8) (hi:i.length=32) (A:Option Addr) (n c:Nat) (w:World):(Instr.build 144 #[(0,A8 i),(1,.slice A n c)]).run Tryz.prog w=.ok (Rw.V ⟨i,⟨A,n,c⟩⟩) w:=by
 have aA:rwz.V.cells.toList=c8 (z8 32)++[.slice none 0 0]:=rfl;have h1:=I3 A0w B1g w (B4l w) #[(0,A8 i),(1,.slice A n c)] [(0,c8 i),(32,[.slice A n c])] (by
  rw[aA];exact ⟨by simp[hi],rfl,by simp[hi],by simp,rfl,by simp,trivial⟩)
 refine h1.trans (congrArg (fun (cs:List Value)=>Result.ok (Value.agg cs.toArray) w) ?_);rw[aA];simp[Bg,N9,hi,List.take_append,List.drop_append,List.drop_eq_nil_of_le,List.take_of_length_le,Rw.cells,Sv.v,c8]
@[go_sem ↓ high] theorem E4x (w : World) (ρ : Operand → Value) (dst : Option Tmp) (ty : TypeId) (pos : String) (after : Array Edge) (guard : Option (Nat × Bool)) (x y : Operand) :
 (execOp ρ { dst,op:=.build 144 #[(0,x),(1,y)],type:=ty,pos,after,guard }).run Tryz.prog w=E5p w (F2 Tryz.prog ρ { dst,op:=.build 144 #[(0,x),(1,y)],type:=ty,pos,after,guard } w) (ρ x) (ρ y):=by
 generalize h0:ρ x=a;generalize h1:ρ y=b;unfold E5p;split
 ·rename_i i A n c g0
  replace g0:=J4 g0;split
  ·rename_i h
   refine E9 w ρ dst ty pos after guard _ _ _ ?_;simp only[List.map_toArray,List.map_cons,List.map_nil,h0,h1,g0];exact E0w i h A n c w
  ·rfl
 ·rfl
@[go_sem ↓ high] theorem F4b (w : World) (ρ : Operand → Value) (dst : Option Tmp) (ty : TypeId) (pos : String) (after : Array Edge) (guard : Option (Nat × Bool)) (x : Operand) :
 (execOp ρ { dst,op:=.buildSlice 71 1 #[(0,x)],type:=ty,pos,after,guard }).run Tryz.prog w=Fu 33 144 w (F2 Tryz.prog ρ { dst,op:=.buildSlice 71 1 #[(0,x)],type:=ty,pos,after,guard } w) (ρ x):=
 Pj w ρ dst ty pos after guard 71 144 33 56 rwz.V x Tryz.underlying71 E7q (by simp[Rw.V,rwz,Rw.cells,Value.cells]) (by decide) (by decide)
end
end Go.Proofs.YtdfpoofbgjilgaaGreat
