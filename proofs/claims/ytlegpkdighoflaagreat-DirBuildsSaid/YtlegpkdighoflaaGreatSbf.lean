/- A part of the proof of DirBuilds. -/
import Derived.Shelf.SlMaps.Clone
import Derived.Test.YtlegpkdighoflaaGreatSbe
set_option linter.unusedVariables false
set_option linter.unusedSimpArgs false
set_option maxRecDepth 100000
set_option maxHeartbeats 40000000
namespace Go.Proofs.YtlegpkdighoflaaGreat
open Go Go.RowKit Sh
theorem Nn (e:Int) (p:Value) (d:Int) (m:Value) (w:World) :
 Calls Tryz.prog 19 #[.agg #[.int .i64 e,p,.int .i64 d,m]] w fun x w'=>x=.returned (.int .i64 e)∧Below w.heap.size w w':=by
 go_enter Tryz.func19,Tryz.ntmps19;go_wp2;go_ret;exact ⟨rfl,(Below.refl _ _).alloc (Nat.le_refl _) _⟩
theorem Mb (e:Int) (a:Option Addr) (d:Int) (m:Value) (w:World) :
 Calls Tryz.prog 20 #[.agg #[.int .i64 e,.pointer a,.int .i64 d,m]] w fun x w'=>x=.returned (.agg #[.pointer a,.int .i64 d])∧Below w.heap.size w w':=by
 go_enter Tryz.func20,Tryz.ntmps20;go_wp2;exact bodyPost_ret (v:=.agg #[.pointer a,.int .i64 d]) (by simp[results,Tryz.results20,go_sem]) rfl ⟨rfl,by first | exact (((Below.refl _ _).alloc (Nat.le_refl _) _).alloc (by simp) _) | exact ((((Below.refl _ _).alloc (Nat.le_refl _) _).alloc (by simp) _).setCell (by simp) _).setCell (by simp) _⟩
theorem B9j (t:Tr) (e:Int) (p:Value) (d:Int) (m:Value) (w:World) (h:At w w.heap.size t p) :
 Calls Tryz.prog 17 #[.agg #[.int .i64 e,p,.int .i64 d,m]] w fun x w'=>x=.returned (A8 t.root)∧Below w.heap.size w w':=by
 have hl:=Tr.root_length t;obtain⟨ap,rfl⟩:=h.form;obtain⟨w0,aA⟩:∃x,x=(w.alloc (Obj.cells #[.int .i64 e,.pointer ap,.int .i64 d,m] 34)).alloc (Obj.cells (c8 (z8 32)).toArray 23):=⟨_,rfl⟩;have B0:Below w.heap.size w w0:=by rw[aA];exact ((Below.refl _ _).alloc (Nat.le_refl _) _).alloc (by simp) _
 have R0:Bk w0 (w.heap.size+1) 23 (c8 (z8 32)):=by rw[aA];simpa using Bk.new (w.alloc (Obj.cells #[.int .i64 e,.pointer ap,.int .i64 d,m] 34)) 23 (c8 (z8 32))
 go_enter Tryz.func17,Tryz.ntmps17;go_wp2_with fail;rw[←aA];clear aA;refine (A3p t _ _ w0 ((h.below B0).more B0.size)).mono ?_;rintro x w1 ⟨rfl,h1⟩;have R1:=R0.below h1 R0.lt;have B1:=C0 B0 h1 B0.size;have aB:E8 w1 ⟨w.heap.size+1,0,none⟩ 32=true:=R1.can (by simp);go_wp2_with fail;exact bodyPost_ret (E9 rfl _ _ _ _ _ _ rfl (R1.puts (vs:=c8 t.root) (by simp[hl])) Tryz.underlying23 rfl (by simp[N6,hl])) rfl ⟨rfl,C1 B1 (by simp) _⟩
def RV (v:Value):Option (DataW Value×List MemPlace):=some (.held v,[])
def MapV (w:World) (b n:Nat) (m:List UInt8→Option Value):Prop:=∃D:DataW Value,w.ownsMap Tryz.prog 23 RV b n D∧
 ∀k:List UInt8,k.length=32→Maps.has D (Iu k)=(m k).isSome∧∀z,D.atKey (Iu k) z=(match m k with | some v=>.held v | none=>z)
def Mc (m:List UInt8→Option Value) (k:List UInt8) (v:Value):List UInt8→Option Value:=fun x=>if x=k then some v else m x
theorem MapV.made (w:World):MapV (w.alloc (.map #[] 0)) w.heap.size 0 (fun _=>none):=⟨.map [],World.ownsMap_made _ _ _ _,fun k hk=>⟨rfl,fun z=>rfl⟩⟩
theorem MapV.put {w:World} {b n:Nat} {m:List UInt8→Option Value} (h:MapV w b n m) {k:List UInt8} (hk:k.length=32) (v:Value) :
 ∃D:DataW Value,w.ownsMap Tryz.prog 23 RV b n D∧∀w',w'.ownsMap Tryz.prog 23 RV b (n+1) (D.put (Iu k) (.held v))→MapV w' b (n+1) (Mc m k v):=by
 obtain⟨D,hD,hl⟩:=h;refine ⟨D,hD,fun w' h'=>⟨_,h',fun k' hk'=>?_⟩⟩;unfold Mc;by_cases e:k'=k
 ·subst e;rw[if_pos rfl];exact ⟨Maps.has_put_same hD.isMap (A0p hk) _,fun z=>Maps.atKey_put_same hD.isMap (A0p hk) _ _⟩
 ·rw[if_neg e];have aA:=B7b hk' hk e;exact ⟨(Maps.has_put_other aA _).trans (hl k' hk').1,fun z=>(Maps.atKey_put_other aA _ _).trans ((hl k' hk').2 z)⟩
theorem MapV.kept {w w':World} {b n:Nat} {m:List UInt8→Option Value} {row:Option Nat} (h:MapV w b n m) (hg:w.grownBy w' row) (hne:some b≠row):MapV w' b n m:=by
 obtain⟨D,hD,h1⟩:=h;exact ⟨D,hD.kept hg hne,h1⟩
theorem MapV.lt {w:World} {b n:Nat} {m:List UInt8→Option Value} (h:MapV w b n m):b<w.heap.size:=by
 obtain⟨D,hD,h1⟩:=h;exact hD.lt
theorem MapV.below {w w':World} {b n B:Nat} {m:List UInt8→Option Value} (h:MapV w b n m) (hb:Below B w w') (hB:w.heap.size≤B):MapV w' b n m:=
 h.kept (row:=none) ⟨hb.os,hb.tape,hb.output,hb.size,fun k hk _=>hb.block k (by omega)⟩ (by simp)
theorem MapV.setCell {w:World} {b n:Nat} {m:List UInt8→Option Value} (h:MapV w b n m) {a:Addr} (ha:b≠a.block) (u:Value):MapV (w.setCell a u) b n m:=by
 obtain⟨D,hD,h1⟩:=h;exact ⟨D,hD.setCell ha u,h1⟩
theorem B7s (w:World):(zeroValue 42).run Tryz.prog w=.ok (.slice none 0 0) w:=by kernel_rfl
theorem MapV.look {w:World} {b n:Nat} {m:List UInt8→Option Value} (h:MapV w b n m) {k:List UInt8} (hk:k.length=32) :
 (Instr.lookup 32 (.map (some b)) (A8 k) false).run Tryz.prog w=.ok ((m k).getD (.slice none 0 0)) w:=by
 obtain⟨D,⟨es,aA,hb,F,_,rfl⟩,hl⟩:=h;obtain⟨_,h2⟩:=hl k hk;rcases Maps.fit_look false Ck Tryz.underlying32 (B7s w) hb F (Fy hk) with ⟨hrun,_,hat⟩ | ⟨e0,y,_,_,hrun,hRv,hat,_⟩
 ·cases hm:m k with
  | none=>exact hrun
  | some v=>
   have h3:=h2 .nil;rw[hat,hm]at h3;cases h3
 ·have hy:y.1=.held e0.val:=by have:some (DataW.held e0.val,([]:List MemPlace))=some y:=hRv;injection this with this;rw[←this]
  cases hm:m k with
  | none=>
   have h3:=h2 .nil;rw[hat,hm,hy]at h3;cases h3
  | some v=>
   have h3:=h2 .nil;rw[hat,hm,hy]at h3;injection h3 with h3;rw[←h3];exact hrun
def MV (w:World) (mv:Value) (m:List UInt8→Option Value):Prop:=(mv=.map none∧∀k,m k=none)∨∃b n,mv=.map (some b)∧MapV w b n m
theorem MV.up {w w':World} {mv:Value} {m:List UInt8→Option Value} (h:MV w mv m) (hb:Below w.heap.size w w'):MV w' mv m:=by
 rcases h with h | ⟨b,n,h1,h2⟩
 ·exact .inl h
 ·exact .inr ⟨b,n,h1,h2.below hb (Nat.le_refl _)⟩
theorem MV.look {w:World} {mv:Value} {m:List UInt8→Option Value} (h:MV w mv m) {k:List UInt8} (hk:k.length=32) :
 (Instr.lookup 32 mv (A8 k) false).run Tryz.prog w=.ok ((m k).getD (.slice none 0 0)) w:=by
 rcases h with ⟨rfl,hm⟩ | ⟨b,n,rfl,h2⟩
 ·rw[hm k];exact Maps.look_nil false Ck Tryz.underlying32 (B7s w) (Fy hk)
 ·exact h2.look hk
def A4z (w:World) (m:List UInt8→Option Value) (K:List UInt8→List (List UInt8)):Prop:=∀k,KS w ((m k).getD (.slice none 0 0)) (K k)
theorem A4z.up {w w':World} {m:List UInt8→Option Value} {K:List UInt8→List (List UInt8)} (h:A4z w m K) (hb:Below w.heap.size w w'):A4z w' m K:=fun k=>(h k).up hb
theorem A4j (e:Int) (ap:Option Addr) (d:Int) (mv:Value) (hmv:mv=.map none∨∃b,mv=.map (some b)) (m:List UInt8→Option Value) (K:List UInt8→List (List UInt8)) (id:List UInt8) (hid:id.length=32) (hkn:(K id).length≤1099511627) (w:World) (hm:MV w mv m) (hK:A4z w m K) :
 Calls Tryz.prog 23 #[.agg #[.int .i64 e,.pointer ap,.int .i64 d,mv],A8 id] w fun x w'=>∃u,x=.returned u∧Eu w' w.heap.size u (K id)∧Below w.heap.size w w':=by
 obtain⟨w0,aB⟩:∃x,x=(w.alloc (Obj.cells #[.int .i64 e,.pointer ap,.int .i64 d,mv] 34)).alloc (Obj.cells (c8 id).toArray 23):=⟨_,rfl⟩;have B0:Below w.heap.size w w0:=by rw[aB];exact ((Below.refl _ _).alloc (Nat.le_refl _) _).alloc (by simp) _
 have aA:=(hm.up B0).look hid;have aC:=Lib.hid ((hK.up B0) id);have I0:Bk w0 (w.heap.size+1) 23 (c8 id):=by rw[aB];simpa using Bk.new (w.alloc (Obj.cells #[.int .i64 e,.pointer ap,.int .i64 d,mv] 34)) 23 (c8 id)
 have ri:=Bk.row8 (n:=32) I0 hid;obtain⟨v,hv⟩:∃v,v=(m id).getD (.slice none 0 0):=⟨_,rfl⟩;rw[←hv]at aA aC;rw[aB]at aA ri;clear hv I0 hm hK;rcases hmv with rfl | ⟨b,rfl⟩;all_goals
  go_enter Tryz.func23,Tryz.ntmps23;go_wp2_with fail;rw[←aB];refine (A1x v _ w0 aC.out hkn).mono ?_;rintro x w1 ⟨u,rfl,O1,b1⟩;have O:=Lib.hid (Eu.less O1 B0.size);clear O1;go_wp2_with fail;go_ret;exact ⟨_,rfl,O.out,C0 B0 b1 B0.size⟩
theorem B5w (w:World):Calls Tryz.prog 28 #[.map none] w fun e w'=>e=.returned (.map none)∧w=w':=by
 have hq:=fun w=>run_eql_map_nil_sl (P:=Tryz.prog) w 32 _ _ none Tryz.underlying32;go_enter Tryz.func28,Tryz.ntmps28;go_wp2;go_ret;exact ⟨rfl,rfl⟩
theorem B0g (b:Nat) (es:Array MapEntry) (clock:Nat) (w:World) (hb:w.heap[b]?=some (.map es clock)) :
 Calls Tryz.prog 28 #[.map (some b)] w fun e w'=>e=.returned (.map (some w.heap.size))∧w'=w.alloc (.map es clock):=by
 have hq:=fun w=>run_eql_map_nil_sl (P:=Tryz.prog) w 32 _ _ (some b) Tryz.underlying32;have aA:(callFunc 51 #[.iface 32 (.map (some b))]).run Tryz.prog w=.ok (.value (.iface 32 (.map (some w.heap.size)))) (w.alloc (.map es clock)):=by rw[run_callFunc_extern Tryz.func51 (by kernel_rfl) (by kernel_rfl) (by kernel_rfl) (e:=Extern.MapsClone.clone) (by kernel_rfl),run_maps_clone_sl w 32 hb];rfl
 have aB:=fun (W:World) (v:Value)=>run_typeAssert_map_sl (P:=Tryz.prog) W 32 20 _ _ v Tryz.underlying32;go_enter Tryz.func28,Tryz.ntmps28;go_wp2;go_ret;exact ⟨rfl,rfl⟩
section
abbrev En := List UInt8 × List (List UInt8)
def lookE:List En→List UInt8→List (List UInt8)
 | [],_=>[]
 | q::L,x=>if q.1=x then q.2 else lookE L x
def pairsE (L:List En):List Pr:=L.map fun q=>(q.1,Ay q.2)
noncomputable def Er (id key:List UInt8) (L:List En):List En:=(L.filter fun q=>Ca q.1 id)++[(id,lookE L id++[key])]++(L.filter fun q=>Ca id q.1)
structure OkE (L : List En) : Prop where
 id:∀q∈L,q.1.length=32
 one:∀q∈L,0<q.2.length
 key:∀q∈L,∀k∈q.2,k.length=32
 rise:L.Pairwise fun x y=>klt x.1 y.1
theorem OkE.nil:OkE []:=⟨by simp,by simp,by simp,List.Pairwise.nil⟩
theorem X2:∀ {L:List En},L.Pairwise (fun x y=>klt x.1 y.1)→∀q∈L,lookE L q.1=q.2
 | [],_,q,h=>by cases h
 | p::L,hp,q,h=>by
  rw[List.pairwise_cons]at hp;unfold lookE;rcases List.mem_cons.1 h with rfl | h
  ·rw[if_pos rfl]
  ·rw[if_neg (hp.1 q h).ne];exact X2 hp.2 q h
theorem Bc:∀ {L:List En} {x:List UInt8},(∀q∈L,q.1≠x)→lookE L x=[]
 | [],_,_=>rfl
 | p::L,x,h=>by
  unfold lookE;rw[if_neg (h p (by simp))];exact Bc fun q hq=>h q (by simp[hq])
theorem C1a {L:List En} (hk:∀q∈L,∀k∈q.2,k.length=32) (x:List UInt8):∀k∈lookE L x,k.length=32:=by
 induction L with
 | nil=>intro k h;cases h
 | cons p L ih=>
  unfold lookE;split
  ·exact hk p (by simp)
  ·exact ih fun q hq=>hk q (by simp[hq])
section
variable {L : List En} {id key : List UInt8}
theorem Gv (ok:OkE L) (hid:id.length=32) (q:En):q∈Er id key L↔q=(id,lookE L id++[key])∨(q∈L∧q.1≠id):=by
 unfold Er;simp only[List.mem_append,List.mem_filter,List.mem_singleton];constructor
 ·rintro ((⟨h1,h2⟩ | rfl) | ⟨h1,h2⟩)
  ·exact .inr ⟨h1,(M8.1 h2).ne⟩
  ·exact .inl rfl
  ·exact .inr ⟨h1,fun e=>(M8.1 h2).ne e.symm⟩
 ·rintro (rfl | ⟨h1,h2⟩)
  ·exact .inl (.inr rfl)
  ·rcases klt.total (ok.id q h1) hid h2 with h3 | h3
   ·exact .inl (.inl ⟨h1,M8.2 h3⟩)
   ·exact .inr ⟨h1,M8.2 h3⟩
theorem OkE.with (ok:OkE L) (hid:id.length=32) (hkey:key.length=32):OkE (Er id key L):=by
 refine ⟨fun q hq=>?_,fun q hq=>?_,fun q hq=>?_,?_⟩
 ·rcases (Gv ok hid q).1 hq with rfl | h
  ·exact hid
  ·exact ok.id q h.1
 ·rcases (Gv ok hid q).1 hq with rfl | h
  ·simp
  ·exact ok.one q h.1
 ·rcases (Gv ok hid q).1 hq with rfl | h
  ·intro k hk;rcases List.mem_append.1 hk with hk | hk
   ·exact C1a ok.key id k hk
   ·simp at hk;subst hk;exact hkey
  ·exact ok.key q h.1
 ·unfold Er;rw[List.pairwise_append,List.pairwise_append];refine ⟨⟨ok.rise.sublist List.filter_sublist,List.pairwise_singleton _ _,?_⟩,ok.rise.sublist List.filter_sublist,?_⟩
  ·intro a ha b hb;simp only[List.mem_singleton]at hb;subst hb;exact M8.1 (List.mem_filter.1 ha).2
  ·intro a ha b hb;have h2:=M8.1 (List.mem_filter.1 hb).2;rcases List.mem_append.1 ha with ha | ha
   ·exact (M8.1 (List.mem_filter.1 ha).2).trans h2
   ·simp only[List.mem_singleton]at ha;subst ha;exact h2
theorem Gt (ok:OkE L) (hid:id.length=32) (hkey:key.length=32) (x:List UInt8):lookE (Er id key L) x=if x=id then lookE L id++[key] else lookE L x:=by
 have aA:=ok.with (id:=id) (key:=key) hid hkey;by_cases e:x=id
 ·subst e;rw[if_pos rfl];exact X2 aA.rise _ ((Gv ok hid _).2 (.inl rfl))
 ·rw[if_neg e];by_cases h:∃q∈L,q.1=x
  ·obtain⟨q,hq,rfl⟩:=h;rw[X2 ok.rise q hq];exact X2 aA.rise q ((Gv ok hid _).2 (.inr ⟨hq,e⟩))
  ·have h':∀q∈L,q.1≠x:=fun q hq he=>h ⟨q,hq,he⟩;rw[Bc h'];refine Bc fun q hq=>?_;rcases (Gv ok hid q).1 hq with rfl | h2
   ·exact fun he=>e he.symm
   ·exact h' q h2.1
theorem B5k:pairsE (Er id key L)=A3e id (Ay (lookE L id++[key])) (pairsE L):=by
 unfold pairsE Er A3e;rw[List.map_append,List.map_append,List.filter_map,List.filter_map];rfl
theorem Al:(pairsE L).length=L.length:=by simp[pairsE]
theorem A9h {t:Tr} (okt:Okt t) (ok:OkE L) (hp:t.pairs=pairsE L) (x:List UInt8):t.look x 0=if (lookE L x).length=0 then none else some (Ay (lookE L x)):=by
 by_cases h:∃q∈L,q.1=x
 ·obtain⟨q,hq,rfl⟩:=h;rw[X2 ok.rise q hq,if_neg (Nat.ne_of_gt (ok.one q hq)),A4m okt,hp];exact List.mem_map.2 ⟨q,hq,rfl⟩
 ·have h':∀q∈L,q.1≠x:=fun q hq he=>h ⟨q,hq,he⟩;rw[Bc h',if_pos (show ([]:List (List UInt8)).length=0 from rfl)];cases hl:t.look x 0 with
  | none=>rfl
  | some v=>
   exfalso;rw[A4m okt,hp]at hl;obtain⟨q,hq,e⟩:=List.mem_map.1 hl;injection e with e1 e2;exact h' q hq e1
theorem Wa {t:Tr} (okt:Okt t) (hp:t.pairs=pairsE L) (hid:id.length=32):Okt (Su t id (Ay (lookE L id++[key])))∧(Su t id (Ay (lookE L id++[key]))).pairs=pairsE (Er id key L):=by
 refine ⟨okt.put hid (Co _),?_⟩;rw[B5k,←hp];exact (A5f hid (Co _) okt).symm
theorem B1v {t:Tr} (okt:Okt t) (hp:t.pairs=pairsE L) (hid:id.length=32):(Er id key L).length≤L.length+1:=by
 have h:=C4n (v:=Ay (lookE L id++[key])) okt hid;have h2:=(Wa (key:=key) okt hp hid).2;rw[Tr.len_pairs,h2,Al,Tr.len_pairs,hp,Al]at h;exact h
end
noncomputable def Hi (L:List En) (u:UV):List En:=if Kh (lookE L u.id) u then Er u.id u.key L else L
noncomputable def applyE (us:List UV) (L:List En):List En:=us.foldl Hi L
theorem Mf {ks:List (List UInt8)} {u:UV}:Jm ks u=0↔Kh ks u=true:=by
 unfold Jm Kh;cases h:signedB u
 ·simp
 ·by_cases h2:u.ver=(ks.length:Int)+1<;>simp[h2]
theorem A3x {ks:List (List UInt8)} {u:UV} (h:Kh ks u=true):Kl ks u=ks++[u.key]:=if_pos h
end
section
structure Sv where
 a:Option Addr
 n:Nat
 c:Nat
def Sv.v (s:Sv):Value:=.slice s.a s.n s.c
structure Rw where
 id:List UInt8
 s:Sv
def Rw.cells (r:Rw):List Value:=c8 r.id++[r.s.v]
def Rw.V (r:Rw):Value:=.agg r.cells.toArray
def rwz:Rw:=⟨z8 32,⟨none,0,0⟩⟩
theorem A8t:(Tryz.prog.info? 44).map (·.size)=some 33:=by kernel_rfl
theorem B0m:((Tryz.prog.info? 44).bind (·.zero))=some rwz.V:=by kernel_rfl
theorem E3h:(Tryz.prog.info? 44).map (fun i=>(i.zero,i.size,i.bytes))=some (some rwz.V,33,56):=by kernel_rfl
theorem A1e:Tryz.prog.underlying 44=some (.struct (Q0 Tryz.prog 44)):=by kernel_rfl
theorem B4o (w:World):(Ee (Q0 Tryz.prog 44)).run Tryz.prog w=.ok #[(0,32),(32,1)] w:=by kernel_rfl
@[go_sem] theorem F2c (r : Rw) : Value.agg r.cells.toArray = r.V := rfl
section
variable (w : World) (ρ : Operand → Value) (dst : Option Tmp) (ty : TypeId) (pos : String) (after : Array Edge) (guard : Option (Nat × Bool))
@[go_sem ↓ high] theorem E4n:RL' 44 33:=LL' A1e A8t
@[go_sem ↓ high] theorem D9h:RS' 44 33:=SS' A8t
@[go_sem ↓ high] theorem E0r:RA' 44 rwz.cells.toArray:=fun w ρ dst ty pos after guard=>N8 w ρ dst ty pos after guard 44 rwz.V B0m
end
noncomputable def E4a (w:World) (raw:Result Next) (a b:Value):Result Next:=match Cf a,b with
 | some i,.slice A n c=>if i.length=32 then .ok (.value (Rw.V ⟨i,⟨A,n,c⟩⟩)) w else raw
 | _,_=>raw
theorem D6y (i:List UInt8) (hi:i.length=32) (A:Option Addr) (n c:Nat) (w:World):(Instr.build 44 #[(0,A8 i),(1,.slice A n c)]).run Tryz.prog w=.ok (Rw.V ⟨i,⟨A,n,c⟩⟩) w:=by
 have aA:rwz.V.cells.toList=c8 (z8 32)++[.slice none 0 0]:=rfl;have h1:=Q9 A1e B0m w (B4o w) #[(0,A8 i),(1,.slice A n c)] [(0,c8 i),(32,[.slice A n c])] (by
  rw[aA];exact ⟨by simp[hi],rfl,by simp[hi],by simp,rfl,by simp,trivial⟩)
 refine h1.trans (congrArg (fun (cs:List Value)=>Result.ok (Value.agg cs.toArray) w) ?_);rw[aA];simp[Fg,Z0,hi,List.take_append,List.drop_append,List.drop_eq_nil_of_le,List.take_of_length_le,Rw.cells,Sv.v,c8]
@[go_sem ↓ high] theorem D9p (w : World) (ρ : Operand → Value) (dst : Option Tmp) (ty : TypeId) (pos : String) (after : Array Edge) (guard : Option (Nat × Bool)) (x y : Operand) :
 (execOp ρ { dst,op:=.build 44 #[(0,x),(1,y)],type:=ty,pos,after,guard }).run Tryz.prog w=E4a w (M6 Tryz.prog ρ { dst,op:=.build 44 #[(0,x),(1,y)],type:=ty,pos,after,guard } w) (ρ x) (ρ y):=by
 generalize h0:ρ x=a;generalize h1:ρ y=b;unfold E4a;split
 ·rename_i i A n c g0
  replace g0:=T5 g0;split
  ·rename_i h
   refine N7 w ρ dst ty pos after guard _ _ _ ?_;simp only[List.map_toArray,List.map_cons,List.map_nil,h0,h1,g0];exact D6y i h A n c w
  ·rfl
 ·rfl
@[go_sem ↓ high] theorem E9q (w : World) (ρ : Operand → Value) (dst : Option Tmp) (ty : TypeId) (pos : String) (after : Array Edge) (guard : Option (Nat × Bool)) (x : Operand) :
 (execOp ρ { dst,op:=.buildSlice 35 1 #[(0,x)],type:=ty,pos,after,guard }).run Tryz.prog w=Lj 33 44 w (M6 Tryz.prog ρ { dst,op:=.buildSlice 35 1 #[(0,x)],type:=ty,pos,after,guard } w) (ρ x):=
 Wm w ρ dst ty pos after guard 35 44 33 56 rwz.V x Tryz.underlying35 E3h (by simp[Rw.V,rwz,Rw.cells,Value.cells]) (by decide) (by decide)
section
variable {w w' : World} {B B' : Nat} {v : Value} {R : List Rw} {L : List En} {r : Rw} {q : En}
end
section
variable {w w' : World} {B B' : Nat} {v : Value} {L : List En}
end
end
end Go.Proofs.YtlegpkdighoflaaGreat
