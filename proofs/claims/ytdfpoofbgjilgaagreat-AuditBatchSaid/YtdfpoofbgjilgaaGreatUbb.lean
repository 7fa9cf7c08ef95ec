/- A part of the proof of AuditBatch. -/
import Derived.Shelf.SlMaps.Clone
import Derived.Test.YtdfpoofbgjilgaaGreatUba
import Derived.Test.YtdfpoofbgjilgaaGreatUav
set_option linter.unusedVariables false
set_option linter.unusedSimpArgs false
set_option maxRecDepth 100000
set_option maxHeartbeats 40000000
namespace Go.Proofs.YtdfpoofbgjilgaaGreat
open Go Go.RowKit Sh
def RV (v:Value):Option (DataW Value×List MemPlace):=some (.held v,[])
def MapV (w:World) (b n:Nat) (m:List UInt8→Option Value):Prop:=∃D:DataW Value,w.ownsMap Tryz.prog 35 RV b n D∧
 ∀k:List UInt8,k.length=32→Maps.has D (Uy k)=(m k).isSome∧∀z,D.atKey (Uy k) z=(match m k with | some v=>.held v | none=>z)
def Qe (m:List UInt8→Option Value) (k:List UInt8) (v:Value):List UInt8→Option Value:=fun x=>if x=k then some v else m x
theorem MapV.made (w:World):MapV (w.alloc (.map #[] 0)) w.heap.size 0 (fun _=>none):=⟨.map [],World.ownsMap_made _ _ _ _,fun k hk=>⟨rfl,fun z=>rfl⟩⟩
theorem MapV.put {w:World} {b n:Nat} {m:List UInt8→Option Value} (h:MapV w b n m) {k:List UInt8} (hk:k.length=32) (v:Value) :
 ∃D:DataW Value,w.ownsMap Tryz.prog 35 RV b n D∧∀w',w'.ownsMap Tryz.prog 35 RV b (n+1) (D.put (Uy k) (.held v))→MapV w' b (n+1) (Qe m k v):=by
 obtain⟨D,hD,hl⟩:=h;refine ⟨D,hD,fun w' h'=>⟨_,h',fun k' hk'=>?_⟩⟩;unfold Qe;by_cases e:k'=k
 ·subst e;rw[if_pos rfl];exact ⟨Maps.has_put_same hD.isMap (B0r hk) _,fun z=>Maps.atKey_put_same hD.isMap (B0r hk) _ _⟩
 ·rw[if_neg e];have aA:=D1t hk' hk e;exact ⟨(Maps.has_put_other aA _).trans (hl k' hk').1,fun z=>(Maps.atKey_put_other aA _ _).trans ((hl k' hk').2 z)⟩
theorem MapV.kept {w w':World} {b n:Nat} {m:List UInt8→Option Value} {row:Option Nat} (h:MapV w b n m) (hg:w.grownBy w' row) (hne:some b≠row):MapV w' b n m:=by
 obtain⟨D,hD,h1⟩:=h;exact ⟨D,hD.kept hg hne,h1⟩
theorem MapV.lt {w:World} {b n:Nat} {m:List UInt8→Option Value} (h:MapV w b n m):b<w.heap.size:=by
 obtain⟨D,hD,h1⟩:=h;exact hD.lt
theorem MapV.below {w w':World} {b n B:Nat} {m:List UInt8→Option Value} (h:MapV w b n m) (hb:Below B w w') (hB:w.heap.size≤B):MapV w' b n m:=
 h.kept (row:=none) ⟨hb.os,hb.tape,hb.output,hb.size,fun k hk _=>hb.block k (by omega)⟩ (by simp)
theorem MapV.setCell {w:World} {b n:Nat} {m:List UInt8→Option Value} (h:MapV w b n m) {a:Addr} (ha:b≠a.block) (u:Value):MapV (w.setCell a u) b n m:=by
 obtain⟨D,hD,h1⟩:=h;exact ⟨D,hD.setCell ha u,h1⟩
theorem A8j (w:World):(zeroValue 26).run Tryz.prog w=.ok (.slice none 0 0) w:=by kernel_rfl
theorem MapV.look {w:World} {b n:Nat} {m:List UInt8→Option Value} (h:MapV w b n m) {k:List UInt8} (hk:k.length=32) :
 (Instr.lookup 54 (.map (some b)) (A8 k) false).run Tryz.prog w=.ok ((m k).getD (.slice none 0 0)) w:=by
 obtain⟨D,⟨es,aA,hb,F,_,rfl⟩,hl⟩:=h;obtain⟨_,h2⟩:=hl k hk;rcases Maps.fit_look false Cm Tryz.underlying54 (A8j w) hb F (Gd hk) with ⟨hrun,_,hat⟩ | ⟨e0,y,_,_,hrun,hRv,hat,_⟩
 ·cases hm:m k with
  | none=>exact hrun
  | some v=>
   have h3:=h2 .nil;rw[hat,hm]at h3;cases h3
 ·have hy:y.1=.held e0.val:=by have:some (DataW.held e0.val,([]:List MemPlace))=some y:=hRv;injection this with this;rw[←this]
  cases hm:m k with
  | none=>
   have h3:=h2 .nil;rw[hat,hm,hy]at h3;cases h3
  | some v=>
   have h3:=h2 .nil;rw[hat,hm,hy]at h3;injection h3 with h3;rw[←h3];exact hrun
def MV (w:World) (mv:Value) (m:List UInt8→Option Value):Prop:=(mv=.map none∧∀k,m k=none)∨∃b n,mv=.map (some b)∧MapV w b n m
theorem MV.up {w w':World} {mv:Value} {m:List UInt8→Option Value} (h:MV w mv m) (hb:Below w.heap.size w w'):MV w' mv m:=by
 rcases h with h | ⟨b,n,h1,h2⟩
 ·exact .inl h
 ·exact .inr ⟨b,n,h1,h2.below hb (Nat.le_refl _)⟩
theorem MV.look {w:World} {mv:Value} {m:List UInt8→Option Value} (h:MV w mv m) {k:List UInt8} (hk:k.length=32) :
 (Instr.lookup 54 mv (A8 k) false).run Tryz.prog w=.ok ((m k).getD (.slice none 0 0)) w:=by
 rcases h with ⟨rfl,hm⟩ | ⟨b,n,rfl,h2⟩
 ·rw[hm k];exact Maps.look_nil false Cm Tryz.underlying54 (A8j w) (Gd hk)
 ·exact h2.look hk
def A5x (w:World) (m:List UInt8→Option Value) (K:List UInt8→List (List UInt8)):Prop:=∀k,KS w ((m k).getD (.slice none 0 0)) (K k)
theorem A5x.up {w w':World} {m:List UInt8→Option Value} {K:List UInt8→List (List UInt8)} (h:A5x w m K) (hb:Below w.heap.size w w'):A5x w' m K:=fun k=>(h k).up hb
theorem A3q (e:Int) (ap:Option Addr) (d:Int) (mv:Value) (hmv:mv=.map none∨∃b,mv=.map (some b)) (m:List UInt8→Option Value) (K:List UInt8→List (List UInt8)) (id:List UInt8) (hid:id.length=32) (hkn:(K id).length≤1099511627) (w:World) (hm:MV w mv m) (hK:A5x w m K) :
 Calls Tryz.prog 40 #[.agg #[.int .i64 e,.pointer ap,.int .i64 d,mv],A8 id] w fun x w'=>∃u,x=.returned u∧(OwnK w' w.heap.size u (K id)∧(K id=[]→u=.slice none 0 0))∧Below w.heap.size w w':=by
 obtain⟨w0,aB⟩:∃x,x=(w.alloc (Obj.cells #[.int .i64 e,.pointer ap,.int .i64 d,mv] 56)).alloc (Obj.cells (c8 id).toArray 35):=⟨_,rfl⟩;have B0:Below w.heap.size w w0:=by rw[aB];exact ((Below.refl _ _).alloc (Nat.le_refl _) _).alloc (by simp) _
 have aA:=(hm.up B0).look hid;have aC:=Lib.hid ((hK.up B0) id);have I0:Bk w0 (w.heap.size+1) 35 (c8 id):=by rw[aB];simpa using Bk.new (w.alloc (Obj.cells #[.int .i64 e,.pointer ap,.int .i64 d,mv] 56)) 35 (c8 id)
 have ri:=Bk.row8 (n:=32) I0 hid;obtain⟨v,hv⟩:∃v,v=(m id).getD (.slice none 0 0):=⟨_,rfl⟩;rw[←hv]at aA aC;rw[aB]at aA ri;clear hv I0 hm hK;rcases hmv with rfl | ⟨b,rfl⟩;all_goals
  go_enter Tryz.func40,Tryz.ntmps40;go_wp2_with fail;rw[←aB];refine (A1z v _ w0 aC.out hkn).mono ?_;rintro x w1 ⟨u,rfl,⟨O1,O2⟩,b1⟩;have O:=Lib.hid (And.intro (OwnK.less O1 B0.size) O2);clear O1 O2;go_wp2_with fail;go_ret;exact ⟨_,rfl,O.out,C0 B0 b1 B0.size⟩
theorem C2v (e:Int) (ap:Option Addr) (d:Int) (mv:Value) (hmv:mv=.map none∨∃b,mv=.map (some b)) (m:List UInt8→Option Value) (K:List UInt8→List (List UInt8)) (id:List UInt8) (hid:id.length=32) (hkn:(K id).length≤1099511627) (w:World) (hm:MV w mv m) (hK:A5x w m K) :
 Calls Tryz.prog 40 #[.agg #[.int .i64 e,.pointer ap,.int .i64 d,mv],A8 id] w fun x w'=>∃u,x=.returned u∧OwnK w' w.heap.size u (K id)∧Below w.heap.size w w':=
 (A3q e ap d mv hmv m K id hid hkn w hm hK).mono fun _ _ ⟨u,e,o,b⟩=>⟨u,e,o.1,b⟩
theorem B7a (w:World):Calls Tryz.prog 54 #[.map none] w fun e w'=>e=.returned (.map none)∧w=w':=by
 have hq:=fun w=>run_eql_map_nil_sl (P:=Tryz.prog) w 54 _ _ none Tryz.underlying54;go_enter Tryz.func54,Tryz.ntmps54;go_wp2;go_ret;exact ⟨rfl,rfl⟩
theorem B0j (b:Nat) (es:Array MapEntry) (clock:Nat) (w:World) (hb:w.heap[b]?=some (.map es clock)) :
 Calls Tryz.prog 54 #[.map (some b)] w fun e w'=>e=.returned (.map (some w.heap.size))∧w'=w.alloc (.map es clock):=by
 have hq:=fun w=>run_eql_map_nil_sl (P:=Tryz.prog) w 54 _ _ (some b) Tryz.underlying54;have aA:(callFunc 102 #[.iface 54 (.map (some b))]).run Tryz.prog w=.ok (.value (.iface 54 (.map (some w.heap.size)))) (w.alloc (.map es clock)):=by rw[run_callFunc_extern Tryz.func102 (by kernel_rfl) (by kernel_rfl) (by kernel_rfl) (e:=Extern.MapsClone.clone) (by kernel_rfl),run_maps_clone_sl w 54 hb];rfl
 have aB:=fun (W:World) (v:Value)=>run_typeAssert_map_sl (P:=Tryz.prog) W 54 20 _ _ v Tryz.underlying54;go_enter Tryz.func54,Tryz.ntmps54;go_wp2;go_ret;exact ⟨rfl,rfl⟩
section
abbrev En := List UInt8 × List (List UInt8)
def lookE:List En→List UInt8→List (List UInt8)
 | [],_=>[]
 | q::L,x=>if q.1=x then q.2 else lookE L x
def pairsE (L:List En):List Pr:=L.map fun q=>(q.1,U0 q.2)
noncomputable def Bm (id key:List UInt8) (L:List En):List En:=(L.filter fun q=>Sq q.1 id)++[(id,lookE L id++[key])]++(L.filter fun q=>Sq id q.1)
structure OkE (L : List En) : Prop where
 id:∀q∈L,q.1.length=32
 one:∀q∈L,0<q.2.length
 key:∀q∈L,∀k∈q.2,k.length=32
 rise:L.Pairwise fun x y=>klt x.1 y.1
theorem OkE.nil:OkE []:=⟨by simp,by simp,by simp,List.Pairwise.nil⟩
theorem Jp:∀ {L:List En},L.Pairwise (fun x y=>klt x.1 y.1)→∀q∈L,lookE L q.1=q.2
 | [],_,q,h=>by cases h
 | p::L,hp,q,h=>by
  rw[List.pairwise_cons]at hp;unfold lookE;rcases List.mem_cons.1 h with rfl | h
  ·rw[if_pos rfl]
  ·rw[if_neg (hp.1 q h).ne];exact Jp hp.2 q h
theorem Ky:∀ {L:List En} {x:List UInt8},(∀q∈L,q.1≠x)→lookE L x=[]
 | [],_,_=>rfl
 | p::L,x,h=>by
  unfold lookE;rw[if_neg (h p (by simp))];exact Ky fun q hq=>h q (by simp[hq])
theorem Pe {L:List En} (hk:∀q∈L,∀k∈q.2,k.length=32) (x:List UInt8):∀k∈lookE L x,k.length=32:=by
 induction L with
 | nil=>intro k h;cases h
 | cons p L ih=>
  unfold lookE;split
  ·exact hk p (by simp)
  ·exact ih fun q hq=>hk q (by simp[hq])
section
variable {L : List En} {id key : List UInt8}
theorem Gj (ok:OkE L) (hid:id.length=32) (q:En):q∈Bm id key L↔q=(id,lookE L id++[key])∨(q∈L∧q.1≠id):=by
 unfold Bm;simp only[List.mem_append,List.mem_filter,List.mem_singleton];constructor
 ·rintro ((⟨h1,h2⟩ | rfl) | ⟨h1,h2⟩)
  ·exact .inr ⟨h1,(X1.1 h2).ne⟩
  ·exact .inl rfl
  ·exact .inr ⟨h1,fun e=>(X1.1 h2).ne e.symm⟩
 ·rintro (rfl | ⟨h1,h2⟩)
  ·exact .inl (.inr rfl)
  ·rcases klt.total (ok.id q h1) hid h2 with h3 | h3
   ·exact .inl (.inl ⟨h1,X1.2 h3⟩)
   ·exact .inr ⟨h1,X1.2 h3⟩
theorem OkE.with (ok:OkE L) (hid:id.length=32) (hkey:key.length=32):OkE (Bm id key L):=by
 refine ⟨fun q hq=>?_,fun q hq=>?_,fun q hq=>?_,?_⟩
 ·rcases (Gj ok hid q).1 hq with rfl | h
  ·exact hid
  ·exact ok.id q h.1
 ·rcases (Gj ok hid q).1 hq with rfl | h
  ·simp
  ·exact ok.one q h.1
 ·rcases (Gj ok hid q).1 hq with rfl | h
  ·intro k hk;rcases List.mem_append.1 hk with hk | hk
   ·exact Pe ok.key id k hk
   ·simp at hk;subst hk;exact hkey
  ·exact ok.key q h.1
 ·unfold Bm;rw[List.pairwise_append,List.pairwise_append];refine ⟨⟨ok.rise.sublist List.filter_sublist,List.pairwise_singleton _ _,?_⟩,ok.rise.sublist List.filter_sublist,?_⟩
  ·intro a ha b hb;simp only[List.mem_singleton]at hb;subst hb;exact X1.1 (List.mem_filter.1 ha).2
  ·intro a ha b hb;have h2:=X1.1 (List.mem_filter.1 hb).2;rcases List.mem_append.1 ha with ha | ha
   ·exact (X1.1 (List.mem_filter.1 ha).2).trans h2
   ·simp only[List.mem_singleton]at ha;subst ha;exact h2
theorem Ce (ok:OkE L) (hid:id.length=32) (hkey:key.length=32) (x:List UInt8):lookE (Bm id key L) x=if x=id then lookE L id++[key] else lookE L x:=by
 have aA:=ok.with (id:=id) (key:=key) hid hkey;by_cases e:x=id
 ·subst e;rw[if_pos rfl];exact Jp aA.rise _ ((Gj ok hid _).2 (.inl rfl))
 ·rw[if_neg e];by_cases h:∃q∈L,q.1=x
  ·obtain⟨q,hq,rfl⟩:=h;rw[Jp ok.rise q hq];exact Jp aA.rise q ((Gj ok hid _).2 (.inr ⟨hq,e⟩))
  ·have h':∀q∈L,q.1≠x:=fun q hq he=>h ⟨q,hq,he⟩;rw[Ky h'];refine Ky fun q hq=>?_;rcases (Gj ok hid q).1 hq with rfl | h2
   ·exact fun he=>e he.symm
   ·exact h' q h2.1
theorem B5u:pairsE (Bm id key L)=B3c id (U0 (lookE L id++[key])) (pairsE L):=by
 unfold pairsE Bm B3c;rw[List.map_append,List.map_append,List.filter_map,List.filter_map];rfl
theorem Y2:(pairsE L).length=L.length:=by simp[pairsE]
theorem Ou {t:Tr} (okt:Okt t) (ok:OkE L) (hp:t.pairs=pairsE L) (x:List UInt8):t.look x 0=if (lookE L x).length=0 then none else some (U0 (lookE L x)):=by
 by_cases h:∃q∈L,q.1=x
 ·obtain⟨q,hq,rfl⟩:=h;rw[Jp ok.rise q hq,if_neg (Nat.ne_of_gt (ok.one q hq)),Cj okt,hp];exact List.mem_map.2 ⟨q,hq,rfl⟩
 ·have h':∀q∈L,q.1≠x:=fun q hq he=>h ⟨q,hq,he⟩;rw[Ky h',if_pos (show ([]:List (List UInt8)).length=0 from rfl)];cases hl:t.look x 0 with
  | none=>rfl
  | some v=>
   exfalso;rw[Cj okt,hp]at hl;obtain⟨q,hq,e⟩:=List.mem_map.1 hl;injection e with e1 e2;exact h' q hq e1
theorem Ux {t:Tr} (okt:Okt t) (hp:t.pairs=pairsE L) (hid:id.length=32):Okt (Rx t id (U0 (lookE L id++[key])))∧(Rx t id (U0 (lookE L id++[key]))).pairs=pairsE (Bm id key L):=by
 refine ⟨okt.put hid (T7 _),?_⟩;rw[B5u,←hp];exact (C1c hid (T7 _) okt).symm
theorem B3u {t:Tr} (okt:Okt t) (hp:t.pairs=pairsE L) (hid:id.length=32):(Bm id key L).length≤L.length+1:=by
 have h:=C8x (v:=U0 (lookE L id++[key])) okt hid;have h2:=(Ux (key:=key) okt hp hid).2;rw[Tr.len_pairs,h2,Y2,Tr.len_pairs,hp,Y2]at h;exact h
end
noncomputable def Bs (L:List En) (u:UV):List En:=if Aw (lookE L u.id) u then Bm u.id u.key L else L
noncomputable def applyE (us:List UV) (L:List En):List En:=us.foldl Bs L
theorem Db {ks:List (List UInt8)} {u:UV}:Az ks u=0↔Aw ks u=true:=by
 unfold Az Aw;cases h:signedB u
 ·simp
 ·by_cases h2:u.ver=(ks.length:Int)+1<;>simp[h2]
theorem Qc {ks:List (List UInt8)} {u:UV} (h:Aw ks u=true):Cn ks u=ks++[u.key]:=if_pos h
end
structure Sv where
 a:Option Addr
 n:Nat
 c:Nat
def Sv.v (s:Sv):Value:=.slice s.a s.n s.c
structure Rw where
  id : List UInt8
  s : Sv
section
def UH (w:World) (b:Nat) (us:List UV) (tl:List Value):Prop:=(∀u∈us,u.Ok)∧Bk w b 48 (us.flatMap P9++tl)
theorem E7o:∀ {us:List UV},(∀u∈us,u.Ok)→(us.flatMap P9).length=us.length*129:=by
 intro us;induction us with
 | nil=>intro _;rfl
 | cons u us ih=>
  intro h;have hu:(P9 u).length=129:=(h u (by simp)).len;rw[List.flatMap_cons,List.length_append,ih (fun x hx=>h x (by simp[hx])),hu,List.length_cons];omega
theorem uat:∀ {us:List UV},(∀u∈us,u.Ok)→∀ {i:Nat} {u:UV},us[i]?=some u→((us.flatMap P9).drop (i*129)).take 129=P9 u:=by
 intro us;induction us with
 | nil=>intro _ i u h;simp at h
 | cons x us ih=>
  intro h i u hi;have hx:(P9 x).length=129:=(h x (by simp)).len;cases i with
  | zero=>
   obtain rfl:x=u:=by simpa using hi
   rw[List.flatMap_cons,Nat.zero_mul,List.drop_zero,List.take_append_of_le_length (by omega),List.take_of_length_le (by omega)]
  | succ i=>
   have:=ih (fun y hy=>h y (by simp[hy])) (i:=i) (u:=u) (by simpa using hi);rw[List.flatMap_cons,List.drop_append,List.drop_eq_nil_of_le (by omega),hx];have e:(i+1)*129-129=i*129:=by omega
   rw[e,List.nil_append,this]
section
variable {w w' : World} {b : Nat} {us : List UV} {tl : List Value}
theorem UH.below {B:Nat} (h:UH w b us tl) (hb:Below B w w') (hg:b<B):UH w' b us tl:=⟨h.1,h.2.below hb hg⟩
theorem UH.row (h:UH w b us tl) {i:Nat} {u:UV} (hk:us[i]?=some u):C6 w ⟨b,i*129,none⟩ 129=some (P9 u):=by
 have hi:i<us.length:=(List.getElem?_eq_some_iff.1 hk).1;have hl:=E7o h.1;rw[h.2.row (by rw[List.length_append,hl];omega)];congr 1;have aA:=uat h.1 hk;rw[List.drop_append_of_le_length (by omega),List.take_append_of_le_length (by rw[List.length_drop];omega)];exact aA
end
end
section
theorem D2w {sd A B:List UInt8} (h1:(Ig sd==A)=true) (h2:(Xk (Pu A0t C5h A 8)==B)=true):Ac sd=B:=by
 rw[beq_iff_eq]at h1;unfold Ac;rw[h1];exact Zg rfl h2
set_option maxRecDepth 100000
set_option maxHeartbeats 0
def eq9:List UInt8:=[206,204,21,7,220,29,221,114,149,149,28,41,8,136,240,149,173,185,4,77,27,115,214,150,230,223,6,93,104,59,212,252]
theorem F3h:Ac (h1 1)=eq9:=D2w (A:=[200,12,38,94,204,130,221,140,238,110,86,206,68,228,93,175,215,160,197,117,13,249,20,178,83,161,251,122,138,246,109,91]) (by decide +kernel) (by decide +kernel)
end
section
set_option maxRecDepth 100000
set_option maxHeartbeats 0
end
section
set_option maxRecDepth 100000
set_option maxHeartbeats 0
end
section
set_option maxRecDepth 100000
set_option maxHeartbeats 0
end
section
set_option maxRecDepth 100000
set_option maxHeartbeats 0
end
section
set_option maxRecDepth 100000
set_option maxHeartbeats 0
end
end Go.Proofs.YtdfpoofbgjilgaaGreat
