/- A part of the proof of ClientForks. -/
import Derived.Test.YtdfpoofbgjilgaaGreatVba
set_option linter.unusedVariables false
set_option linter.unusedSimpArgs false
set_option maxRecDepth 100000
set_option maxHeartbeats 40000000
namespace Go.Proofs.YtdfpoofbgjilgaaGreat
open Go Go.RowKit Sh
section
def MVN (w:World) (mv:Value) (m:List UInt8→Option Value) (N:Nat):Prop:=(mv=.map none∧∀k,m k=none)∨∃b n,n≤N∧mv=.map (some b)∧MapV w b n m
theorem MVN.mv {w:World} {mv:Value} {m:List UInt8→Option Value} {N:Nat} (h:MVN w mv m N):MV w mv m:=by
 rcases h with h | ⟨b,n,_,h1,h2⟩
 ·exact .inl h
 ·exact .inr ⟨b,n,h1,h2⟩
theorem MVN.form {w:World} {mv:Value} {m:List UInt8→Option Value} {N:Nat} (h:MVN w mv m N):mv=.map none∨∃b,mv=.map (some b):=by
 rcases h with h | ⟨b,n,_,h1,h2⟩
 ·exact .inl h.1
 ·exact .inr ⟨b,h1⟩
theorem MVN.up {w w':World} {mv:Value} {m:List UInt8→Option Value} {N:Nat} (h:MVN w mv m N) (hb:Below w.heap.size w w'):MVN w' mv m N:=by
 rcases h with h | ⟨b,n,h0,h1,h2⟩
 ·exact .inl h
 ·exact .inr ⟨b,n,h0,h1,h2.below hb (Nat.le_refl _)⟩
theorem B0r (mv:Value) (m:List UInt8→Option Value) (N:Nat) (w:World) (h:MVN w mv m N) :
 Calls Tryz.prog 54 #[mv] w fun e w'=>((mv=.map none∧e=.returned (.map none)∧(∀k,m k=none))∨∃n,n≤N∧e=.returned (.map (some w.heap.size))∧MapV w' w.heap.size n m)∧Below w.heap.size w w':=by
 rcases h with ⟨rfl,hm⟩ | ⟨b,n,hn,rfl,h⟩
 ·refine (B7e w).mono ?_;rintro e w' ⟨rfl,rfl⟩;exact ⟨.inl ⟨rfl,rfl,hm⟩,Below.refl _ _⟩
 ·obtain⟨D,⟨es,aA,hb,F,hs,hD⟩,hl⟩:=h;refine (A8z b es aA w hb).mono ?_;rintro e w' ⟨rfl,rfl⟩;exact ⟨.inr ⟨n,hn,rfl,D,⟨es,aA,heap_alloc_new w _,F,hs,hD⟩,hl⟩,(Below.refl _ _).alloc (Nat.le_refl _) _⟩
theorem MapV.row {w:World} {b n:Nat} {m:List UInt8→Option Value} (h:MapV w b n m):∀r,some b=some r→∃o:Obj,w.heap[r]?=some o∧o.isCells=false:=by
 obtain⟨D,⟨es,aA,hb,_⟩,_⟩:=h;intro r e;injection e with e;subst e;exact ⟨_,hb,rfl⟩
theorem D2b {A B:World} {row:Option Nat} {a:Addr} {u:Value} (h:A.cell? a=some u) (hg:A.grownBy B row) (hr:∀r,row=some r→∃o:Obj,A.heap[r]?=some o∧o.isCells=false):B.cell? a=some u:=by
 have aA:some a.block≠row:=fun e=>by
  obtain⟨o,ho,hc⟩:=hr a.block e.symm;unfold World.cell? at h;rw[ho]at h;cases o<;>cases hc<;>(dsimp only at h;cases h)
 have aB:a.block<A.heap.size:=by
  cases hb:A.heap[a.block]? with
  | none=>unfold World.cell? at h;rw[hb]at h;cases h
  | some o=>exact (Array.getElem?_eq_some_iff.1 hb).1
 unfold World.cell? at h ⊢;rw[hg.block a.block aB aA];exact h
theorem Fp {A B:World} {row:Option Nat} {lo C:Nat} {a:Option Addr} {cs:List Value} (h:Rd A lo C a cs) (hg:A.grownBy B row) (hr:∀r,row=some r→∃o:Obj,A.heap[r]?=some o∧o.isCells=false):Rd B lo C a cs:=by
 rcases h with h | ⟨g,o,h1,h2,h3,h4⟩
 ·exact .inl h
 ·exact .inr ⟨g,o,h1,h2,h3,fun j u hj=>D2b (h4 j u hj) hg hr⟩
def US (w:World) (B:Nat) (v:Value) (us:List UV):Prop:=(us=[]∧v=.slice none 0 0)∨∃g tl c,v=.slice (some ⟨g,0,none⟩) us.length c∧UH w g us tl∧g<B
def Cw (w:World) (dv:Value) (e:Nat) (L:List En) (N:Nat):Prop:=∃(ap:Option Addr) (mv:Value) (m:List UInt8→Option Value) (t:Tr),dv=.agg #[.int .i64 (e:Int),.pointer ap,.int .i64 0,mv]∧MVN w mv m N∧Zq w m (lookE L)∧OkE L∧Okt t∧t.pairs=pairsE L∧At w w.heap.size t (.pointer ap)
theorem Cw.nil (w:World):Cw w (.agg #[.int .i64 0,.pointer none,.int .i64 0,.map none]) 0 [] 0:=⟨none,_,fun _=>none,.e,rfl,.inl ⟨rfl,fun _=>rfl⟩,fun _=>.inl ⟨rfl,rfl⟩,OkE.nil,Okt.nil,rfl,rfl⟩
theorem Cw.up {w w':World} {dv:Value} {e:Nat} {L:List En} {N:Nat} (h:Cw w dv e L N) (hb:Below w.heap.size w w'):Cw w' dv e L N:=by
 obtain⟨ap,mv,m,t,h1,h2,h3,h4,h5,h6,h7⟩:=h;exact ⟨ap,mv,m,t,h1,h2.up hb,h3.up hb,h4,h5,h6,(h7.below hb).more hb.size⟩
theorem Vd:RS' 56 4:=SS' Te
theorem B6o:RS' 53 2:=SS' A5x
theorem Qi {w:World} {g o:Nat} {vs:List Value} {p:Addr} (h:p.block≠g):(C4 w ⟨g,o,none⟩ vs).cell? p=w.cell? p:=by
 have hg:=X4 w g o vs;by_cases hlt:p.block<w.heap.size
 ·unfold World.cell?;rw[hg.block p.block hlt (by simpa using h)]
 ·have h1:w.heap[p.block]?=none:=Array.getElem?_eq_none (by omega);have h2:(C4 w ⟨g,o,none⟩ vs).heap[p.block]?=none:=Array.getElem?_eq_none (by simp;omega);unfold World.cell?;rw[h1,h2]
def KSx (w:World) (a:Nat) (v:Value) (ks:List (List UInt8)):Prop:=(v=.slice none 0 0∧ks=[])∨((Hs w 0 a v ks∨Hs w (a+2) w.heap.size v ks)∧0<ks.length∧KdT w v.ownBlock 35)
def KeysX (w:World) (a:Nat) (m:List UInt8→Option Value) (K:List UInt8→List (List UInt8)):Prop:=∀k,KSx w a ((m k).getD (.slice none 0 0)) (K k)
theorem KSx.ks {w:World} {a:Nat} {v:Value} {ks:List (List UInt8)} (h:KSx w a v ks) (ha:a≤w.heap.size):KS w v ks:=by
 rcases h with h | ⟨h | h,hn,ht⟩
 ·exact .inl h
 ·exact .inr ⟨h.more ha,hn,ht⟩
 ·exact .inr ⟨h.less (Nat.zero_le _),hn,ht⟩
theorem KSx.of {w w':World} {v:Value} {ks:List (List UInt8)} (h:KS w v ks) (hb:Below w.heap.size w w'):KSx w' w.heap.size v ks:=by
 rcases h with h | ⟨h,hn,ht⟩
 ·exact .inl h
 ·exact .inr ⟨.inl (h.below hb),hn,ht.up hb⟩
theorem KSx.up {w w':World} {a:Nat} {v:Value} {ks:List (List UInt8)} (h:KSx w a v ks) (hb:Below w.heap.size w w') (ha:a≤w.heap.size):KSx w' a v ks:=by
 rcases h with h | ⟨h | h,hn,ht⟩
 ·exact .inl h
 ·exact .inr ⟨.inl (h.below (hb.mono ha)),hn,ht.up hb⟩
 ·exact .inr ⟨.inr ((h.below hb).more hb.size),hn,ht.up hb⟩
theorem KSx.put {w:World} {a g o:Nat} {vs:List Value} {v:Value} {ks:List (List UInt8)} (h:KSx w a v ks) (h1:a≤g) (h2:g<a+2):KSx (C4 w ⟨g,o,none⟩ vs) a v ks:=by
 rcases h with h | ⟨⟨h0,A,c,e1,e2,e3,e4⟩ | ⟨h0,A,c,e1,e2,e3,e4⟩,hn,ht⟩
 ·exact .inl h
 ·exact .inr ⟨.inl ⟨h0,A,c,e1,e2,e3,e4.keep fun p _ hp=>Qi (by omega)⟩,hn,ht.putAt g vs o⟩
 ·exact .inr ⟨.inr ⟨h0,A,c,e1,e2,e3,by have:=e4.keep (w':=C4 w ⟨g,o,none⟩ vs) (fun p hp _=>Qi (by omega));simpa using this⟩,hn,ht.putAt g vs o⟩
theorem KSx.own {A B:World} {row:Option Nat} {a:Nat} {v:Value} {ks:List (List UInt8)} (h:KSx A a v ks) (hg:A.grownBy B row) (hr:∀r,row=some r→∃o:Obj,A.heap[r]?=some o∧o.isCells=false):KSx B a v ks:=by
 rcases h with h | ⟨⟨h0,A,c,e1,e2,e3,e4⟩ | ⟨h0,A,c,e1,e2,e3,e4⟩,hn,ht⟩
 ·exact .inl h
 ·exact .inr ⟨.inl ⟨h0,A,c,e1,e2,e3,Fp e4 hg hr⟩,hn,ht.own hg hr⟩
 ·exact .inr ⟨.inr ⟨h0,A,c,e1,e2,e3,(Fp e4 hg hr).more hg.size⟩,hn,ht.own hg hr⟩
theorem KeysX.set {w:World} {a:Nat} {m:List UInt8→Option Value} {L:List En} (h:KeysX w a m (lookE L)) {id:List UInt8} {r:Value} {K:List (List UInt8)} {L':List En} (hr:KSx w a r K) (hL:∀x,lookE L' x=if x=id then K else lookE L x):KeysX w a (B2j m id r) (lookE L'):=fun x=>by
 rw[hL x];unfold B2j;by_cases e:x=id
 ·rw[if_pos e,if_pos e];exact hr
 ·rw[if_neg e,if_neg e];exact h x
structure ApI (w wr : World) (e : Int) (b N : Nat) (L : List En) (us : List UV) (i : Nat) (ap : Option Addr) (m : List UInt8 → Option Value) (t : Tr) (L' : List En) (n' : Nat) : Prop where
 eq:L'=applyE (us.take i) L
 hn:n'≤N+i
 kd:Bk wr w.heap.size 56 [.int .i64 e,.pointer ap,.int .i64 0,.map (some b)]
 kr:Bk wr (w.heap.size+1) 56 [.int .i64 0,.pointer none,.int .i64 0,.map none]
 mv:MapV wr b n' m
 ks:KeysX wr w.heap.size m (lookE L')
 ok:OkE L'
 okt:Okt t
 prs:t.pairs=pairsE L'
 tr:At wr wr.heap.size t (.pointer ap)
 len:L'.length≤L.length+i
 lks:∀x,(lookE L' x).length≤(lookE L x).length+i
 below:Below w.heap.size w wr
 z:w.heap.size+2≤wr.heap.size
 zb:w.heap.size+2≤b
section
variable {w wr w' : World} {e : Int} {b N : Nat} {L : List En} {us : List UV} {i : Nat} {ap : Option Addr} {m : List UInt8 → Option Value} {t : Tr} {L' : List En} {n' : Nat}
theorem ApI.up (h:ApI w wr e b N L us i ap m t L' n') (hb:Below wr.heap.size wr w'):ApI w w' e b N L us i ap m t L' n':=
 ⟨h.eq,h.hn,h.kd.below hb h.kd.lt,h.kr.below hb h.kr.lt,h.mv.below hb (Nat.le_refl _),fun k=>(h.ks k).up hb h.below.size,h.ok,h.okt,h.prs,(h.tr.below hb).more hb.size,h.len,h.lks,C1 h.below hb h.below.size,Nat.le_trans h.z hb.size,h.zb⟩
theorem ApI.skip (h:ApI w wr e b N L us i ap m t L' n') {u:UV} (hu:us[i]?=some u) (hn:Ju (lookE L' u.id) u=false):ApI w wr e b N L us (i+1) ap m t L' n':=
 { h with
  eq:=by
   have hi:=(List.getElem?_eq_some_iff.1 hu).1;have e1:us.take (i+1)=us.take i++[u]:=by rw[List.take_add_one,hu];rfl
   unfold applyE;rw[e1,List.foldl_append];show L'=Ta (applyE (us.take i) L) u;rw[←h.eq];unfold Ta;rw[hn];rfl
  hn:=Nat.le_trans h.hn (by omega)
  len:=Nat.le_trans h.len (by omega)
  lks:=fun x=>Nat.le_trans (h.lks x) (by omega) }
end
def USo (w:World) (B:Nat) (v:Value) (us:List UV):Prop:=(us=[]∧v=.slice none 0 0)∨∃g o tl c,∃pre:List UV,v=.slice (some ⟨g,o,none⟩) us.length c∧o=pre.length*129∧UH w g (pre++us) tl∧g<B
theorem USo.form {w:World} {B:Nat} {v:Value} {us:List UV} (h:USo w B v us):∃A c,v=.slice A us.length c:=by
 rcases h with ⟨h1,h2⟩ | ⟨g,o,tl,c,pre,h1,_⟩
 ·subst h1;exact ⟨none,0,h2⟩
 ·exact ⟨_,c,h1⟩
theorem US.so {w:World} {B:Nat} {v:Value} {us:List UV} (h:US w B v us):USo w B v us:=by
 rcases h with h | ⟨g,tl,c,h1,h2,h3⟩
 ·exact .inl h
 ·exact .inr ⟨g,0,tl,c,[],h1,by simp,by simpa using h2,h3⟩
theorem UH.rowO {w:World} {b o:Nat} {pre us:List UV} {tl:List Value} (h:UH w b (pre++us) tl) (ho:o=pre.length*129) {i:Nat} {u:UV} (hk:us[i]?=some u):D9 w ⟨b,o+i*129,none⟩ 129=some (Cj u):=by
 have:=h.row (i:=pre.length+i) (u:=u) (by rw[List.getElem?_append_right (by omega),Nat.add_sub_cancel_left];exact hk);rwa [Nat.add_mul,←ho]at this
attribute [local go_sem ↓ high] Hl Ut Vd B6o
theorem B1a (dv : Value) (e : Nat) (L : List En) (N : Nat) (us : List UV) (v : Value) (w : World) (hD : Cw w dv e L N) (hU : USo w w.heap.size v us) (he : e ≤ 1000000000) (hN : N + us.length ≤ 1000000000) (hLl : L.length + us.length ≤ 1000000000) (hks : ∀ x, (lookE L x).length + us.length ≤ 1000000) :
    Calls Tryz.prog 16 #[dv, v] w fun x w' => ∃ dv', x = .returned dv' ∧ Cw w' dv' (e + 1) (applyE us L) (N + us.length) ∧ Below w.heap.size w w' := by
  obtain ⟨ap, mv, m, t, rfl, hm, hK, cK, okt, hp, bU⟩ := hD
  obtain ⟨A, c, rfl⟩ := hU.form
  obtain ⟨n, hn⟩ : ∃ n, n = us.length := ⟨_, rfl⟩
  rw [← hn] at hN hLl hks hU ⊢
  have HN := Lib.hid hn
  have HU := Lib.hid hU
  clear hn hU
  obtain ⟨w1, cO⟩ : ∃ x, x = (w.alloc (Obj.cells #[.int .i64 ((e : Int) + 1), .pointer ap, .int .i64 0, mv] 56)).alloc (Obj.cells #[.int .i64 0, .pointer none, .int .i64 0, .map none] 56) := ⟨_, rfl⟩
  have hL : w1 = Q6 w [(56, [.int .i64 ((e : Int) + 1), .pointer ap, .int .i64 0, mv]), (56, [.int .i64 0, .pointer none, .int .i64 0, .map none])] := cO
  have B1 : Below w.heap.size w w1 := by rw [hL]; exact H6 _ _
  have cP : Bk w1 w.heap.size 56 [.int .i64 ((e : Int) + 1), .pointer ap, .int .i64 0, mv] := by rw [hL]; exact E0 _ w 0 _ _ rfl
  have cQ : Bk w1 (w.heap.size + 1) 56 [.int .i64 0, .pointer none, .int .i64 0, .map none] := by rw [hL]; exact E0 _ w 1 _ _ rfl
  have z1 : w1.heap.size = w.heap.size + 2 := by rw [hL, O7]; rfl
  clear hL
  have eJ := hm.up B1
  have eK := hK.up B1
  have bW := (bU.below B1).more B1.size
  have eP : IntKind.i64.wrap ((e : Int) + 1) = (e : Int) + 1 := IntWalk.i64_in _ (by omega)
  go_enter Tryz.func16, Tryz.ntmps16
  go_wp2_with fail
  rw [← cO]
  clear cO hm
  refine (B0r mv m N w1 eJ).mono ?_
  rintro x w2 ⟨eL, b2⟩
  have B2 := C1 B1 b2 B1.size
  have bS := cP.below b2 cP.lt
  have cL := cQ.below b2 cQ.lt
  have eM := eK.up b2
  have bX := (bW.below b2).more b2.size
  have z2 : w.heap.size + 2 ≤ w2.heap.size := by have := b2.size; omega
  have z3 : w.heap.size + 2 ≤ w1.heap.size := by omega
  clear z1
  obtain ⟨b, hb⟩ : ∃ b, b = w1.heap.size := ⟨_, rfl⟩
  rw [← hb] at eL z3
  clear hb
  clear cP cQ eK bW eJ
  have d3 : w2.cell? ⟨w.heap.size, 3, none⟩ = some mv := bS.at_ rfl
  have f3 := bS.frozen 3
  rcases eL with ⟨rfl, rfl, hnone⟩ | ⟨n0, cM, rfl, hM2⟩
  case inl =>
    obtain rfl : m = fun _ => none := funext hnone
    have hq := fun w => run_eql_map_nil_sl (P := Tryz.prog) w 54 _ _ none Tryz.underlying54
    go_wp2_with fail
    go_wp2_with fail
    obtain ⟨wa, bT⟩ : ∃ x, x = w2.setCell ⟨w.heap.size, 3, none⟩ (.map none) := ⟨_, rfl⟩
    rw [← bT]
    have cN : Bk wa w.heap.size 56 [.int .i64 ((e : Int) + 1), .pointer ap, .int .i64 0, .map none] := by rw [bT]; exact bS.set_ 3 _
    have eN : Bk wa (w.heap.size + 1) 56 [.int .i64 0, .pointer none, .int .i64 0, .map none] := by rw [bT]; exact cL.far (by simp) _
    have Ba : Below w.heap.size w wa := by rw [bT]; exact B2.setCell (Nat.le_refl _) _
    have za : w.heap.size + 2 ≤ wa.heap.size := by rw [bT]; simpa using z2
    have dA := (cN.alloc (.map #[] 0)).at_ (i := 3) (u := .map none) rfl
    have fA := (cN.alloc (.map #[] 0)).frozen 3
    have eO := @run_makeMap Tryz.prog
    clear bT bS cL B2 d3 f3 hq eM bX z2 b2
    simp only [eO, Result.andThen_ok]
    obtain ⟨w3, aI⟩ : ∃ x, x = (wa.alloc (.map #[] 0)).setCell ⟨w.heap.size, 3, none⟩ (.map (some wa.heap.size)) := ⟨_, rfl⟩
    have bY : Bk w3 w.heap.size 56 [.int .i64 ((e : Int) + 1), .pointer ap, .int .i64 0, .map (some wa.heap.size)] := by rw [aI]; exact (cN.alloc _).set_ 3 _
    have bZ : Bk w3 (w.heap.size + 1) 56 [.int .i64 0, .pointer none, .int .i64 0, .map none] := by rw [aI]; exact (eN.alloc _).far (by simp) _
    have B3 : Below w.heap.size w w3 := by rw [aI]; exact (Ba.alloc (by omega) _).setCell (Nat.le_refl _) _
    obtain ⟨n0, cM⟩ : ∃ n0 : Nat, n0 = 0 := ⟨_, rfl⟩
    have cA : MapV w3 wa.heap.size n0 (fun _ => none) := by rw [aI, cM]; exact (MapV.made wa).setCell (by simp; omega) _
    have z4 : w.heap.size + 2 ≤ w3.heap.size := by rw [aI]; simp; omega
    have A0 : ApI w w3 ((e : Int) + 1) wa.heap.size N L us 0 ap (fun _ => none) t L n0 := ⟨rfl, by omega, bY, bZ, cA, fun k => KSx.of (hK k) B3, cK, okt, hp, (bU.below B3).more B3.size, Nat.le_refl _, fun x => Nat.le_refl _, B3, z4, za⟩
    clear cN eN bY bZ B3 cA
    go_wp2_with fail
    rw [← aI]
    clear dA fA aI eO Ba
    obtain ⟨m0, cB⟩ : ∃ m0 : List UInt8 → Option Value, m0 = fun _ => none := ⟨_, rfl⟩
    rw [← cB] at A0
    clear cB cM hnone
    generalize wa.heap.size = b at *
    obtain ⟨tp, cC⟩ : ∃ tp, ApI w w3 ((e : Int) + 1) b N L us 0 ap m0 tp L n0 := ⟨t, A0⟩
    clear A0 okt hp cK hK bU B1
    go_loopw [24] (fun x wr => ∃ (i : Nat) (ap : Option Addr) (m : List UInt8 → Option Value) (t : Tr) (L' : List En) (n' : Nat), i ≤ n ∧ x = .int .i64 (i : Int) ∧ ApI w wr ((e : Int) + 1) b N L us i ap m t L' n') (fun x _ => n - (intOf x).toNat)
    case atStart => exact ⟨0, ap, _, tp, L, n0, by omega, rfl, cC⟩
    case round =>
      clear cC
      obtain ⟨i, ap, m, t, L', n', hi, rfl, hA⟩ := hrel
      by_cases hlt : i < n
      · have hd : decide ((i : Int) < (n : Int)) = true := decide_eq_true (by omega)
        have eQ : decide (i < n) = true := decide_eq_true hlt
        have bD : i < us.length := by rw [← HN.out]; exact hlt
        obtain ⟨u, hu⟩ : ∃ u, us[i]? = some u := ⟨_, List.getElem?_eq_getElem bD⟩
        obtain ⟨g, o, rfl, ⟨aO, tl, aP, bG⟩, hg⟩ : ∃ g o, A = some ⟨g, o, none⟩ ∧ (∃ aO tl, o = aO.length * 129 ∧ UH w g (aO ++ us) tl) ∧ g < w.heap.size := by
          rcases HU.out with ⟨h1, _⟩ | ⟨g, o, tl, c', aO, h1, h0, h2, h3⟩
          · rw [h1] at bD; simp at bD
          · injection h1 with h1; exact ⟨g, o, h1, ⟨aO, tl, h0, h2⟩, h3⟩
        have aD : u.Ok := bG.1 u (List.mem_append_right _ (List.mem_of_getElem? hu))
        have cR := UH.rowO (bG.below hA.below hg) aP hu
        have aF := aD.id
        have cD := aD.len
        have Hu := Lib.hid hu
        clear bG bD hu aP
        obtain ⟨w4, bE⟩ : ∃ x, x = C4 (wr.alloc (Obj.cells (Cj (uvz 129)).toArray 48)) ⟨wr.heap.size, 0, none⟩ (Cj u) := ⟨_, rfl⟩
        have aG := (Bk.new wr 48 (Cj (uvz 129))).canvc (n := 129) (Vq _).len
        have ku : Bk w4 wr.heap.size 48 (Cj u) := by rw [bE]; exact (Bk.new wr 48 (Cj (uvz 129))).putvc (n := 129) (Vq _).len cD
        have aQ := hA.up (w' := w4) (by rw [bE]; exact C0 ((Below.refl _ _).alloc (Nat.le_refl _) _) (Nat.le_refl _) _)
        clear hA
        go_wp2_with fail
        rw [← bE]
        clear bE aG cR
        generalize wr.heap.size = gu at *
        have bH := (aQ.ks u.id).ks aQ.below.size
        obtain ⟨kv, bI⟩ : ∃ v, v = (m u.id).getD (.slice none 0 0) := ⟨_, rfl⟩
        have cS := Lib.hid bI
        rw [← bI] at bH
        clear bI
        have S0 : Below w4.heap.size w4 w4.drew := (Below.refl _ _).drew
        have aR := aQ.up S0
        have aS := Lib.hid aR
        have bF := ku.below S0 ku.lt
        have cT := Lib.hid (bH.up S0)
        clear bH
        refine E3 (fun W => MapV W b n' m ∧ Bk W w.heap.size 56 [.int .i64 ((e : Int) + 1), .pointer ap, .int .i64 0, .map (some b)] ∧ Bk W gu 48 (Cj u)) (by kernel_rfl) ?_
        refine C5 (A := ?eR) [0, 1, 2, 3, 4, 5] (by kernel_rfl) (by kernel_rfl) rfl (by kernel_rfl) (by kernel_rfl) ⟨aR.mv, aR.kd, bF⟩ (h := fun W hW => ?cU) (hr := ?eS)
        case cU =>
          have f1 : W.cell? ⟨w.heap.size, 3, none⟩ = some (.map (some b)) := hW.2.1.at_ (i := 3) rfl
          have f2 := UV.loadid hW.2.2 aD
          have f3 := hW.1.look aF
          rw [← cS.out] at f3
          have f4 := Bk.rowvc (n := 129) hW.2.2 cD
          simp only [pick, List.getElem?_cons_zero, List.getElem?_cons_succ]
          repeat (go_big_quiet_step (fail))
          refine wpQuiet_nil ?_
          rfl
        refine C3 6 (by kernel_rfl) (by rfl) (by rfl) (fun Q' hQ' => ?_)
        dsimp only [E5]
        have aT := Lib.hid hQ'
        clear hQ'
        go_wp2_with fail
        refine (B0z kv (lookE L' u.id) u aD w4.drew cT.out (by have := aS.out.lks u.id; have := hks u.id; omega)).mono ?_
        rintro x w6 ⟨r, rfl, aJ, b6⟩
        have aB := aR.up b6
        have aU := bF.below b6 bF.lt
        obtain ⟨Ar, cr, rfl, cV, cW⟩ := aJ.form
        have aK := Lib.hid aJ
        clear aJ
        go_wp2_with fail
        refine aT.out _ _ ⟨aB.mv, aB.kd, aU⟩ ?_
        clear aT
        refine C5 (A := ?eT) [7, 8, 9, 10, 11] (by kernel_rfl) (by kernel_rfl) rfl (by kernel_rfl) (by kernel_rfl) ⟨aB.mv, aB.kd, aU⟩ (h := fun W hW => ?cX) (hr := ?eU)
        case cX =>
          simp only [List.append_eq, List.nil_append, List.cons_append, pick, List.getElem?_cons_zero, List.getElem?_cons_succ]
          repeat (go_big_quiet_step (fail))
          refine wpQuiet_nil ?_
          rfl
        refine F0 (by kernel_rfl) ?_
        clear aR aS bF b6 S0
        cases hnb : Ju (lookE L' u.id) u with
        | false =>
          have cY : (Hx (lookE L' u.id) u == 0) = false := by
            cases hz : (Hx (lookE L' u.id) u == 0) with
            | false => rfl
            | true => rw [beq_iff_eq, Kx] at hz; rw [hz] at hnb; cases hnb
          have cZ := Lib.hid (aB.skip Hu.out hnb)
          go_wp2_with fail
          go_roundw
          case rel => exact ⟨i + 1, ap, m, t, L', n', by omega, by go_num, cZ.out⟩
          case measure => simp [intOf]; omega
        | true =>
          have cY : (Hx (lookE L' u.id) u == 0) = true := by rw [beq_iff_eq, Kx]; exact hnb
          have bJ := A5b hnb
          have aV : (Il (lookE L' u.id) u).length ≤ 1000000 := by
            rw [bJ]; simp
            have := aB.lks u.id; have := hks u.id; omega
          obtain ⟨D, hD, aW⟩ := aB.mv.put aF (.slice Ar (Il (lookE L' u.id) u).length cr)
          have f1 : w6.cell? ⟨w.heap.size, 3, none⟩ = some (.map (some b)) := aB.kd.at_ (i := 3) rfl
          have f2 := UV.loadid aU aD
          have dC : n' < maxLen := by have := aB.hn; unfold maxLen; omega
          have HE := Lib.hid bJ
          have HL := Lib.hid aV
          clear bJ aV
          generalize hgl : (Il (lookE L' u.id) u).length = nk at *
          go_wp2_with (first | (at_mapUpdate; refine wpList_mapUpdate_own _ rfl _ _ _ 54 rfl 35 26 Gq Tryz.underlying54 RV b n' D rfl hD dC _ _ (Zz u.id) rfl rfl (Kp aF) (.held (.slice Ar nk cr)) [] rfl ?_; intro w7 aH aA) | fail)
          dsimp only [Act.put]
          have aC := aB.mv.row
          have cE := aW w7 aH
          have z6 : w.heap.size + 2 ≤ w4.drew.heap.size := aQ.z
          have cF : KSx w6 w.heap.size (.slice Ar nk cr) (lookE L' u.id ++ [u.key]) := by
            have h1 := aK.out.hs
            rw [HE.out] at h1
            exact .inr ⟨.inr (h1.less z6), by simp, Xy aK.out.2⟩
          have bK := cF.own aA aC
          have aX : KeysX w7 w.heap.size (B2j m u.id (.slice Ar nk cr)) (lookE (Ea u.id u.key L')) := KeysX.set (fun k => (aB.ks k).own aA aC) bK (fun x => Lf aB.ok aF aD.key x)
          have aY := Nu aB.kd aA aC
          have bL := Nu aB.kr aA aC
          have aM := Nu aU aA aC
          have aZ := (A2b aA aC aB.tr).more aA.size
          have dD := aB.zb
          have B7 := aB.below.grown aA aB.below.size (fun k hk => by cases hk; omega)
          have cG : Hs w7 0 w7.heap.size (.slice Ar nk cr) (lookE L' u.id ++ [u.key]) := by
            rcases bK.ks B7.size with ⟨h, _⟩ | ⟨h, _⟩
            · injection h with h1 h2 h3
              have := aK.out.form
              obtain ⟨_, _, e, _⟩ := this
              have cH := congrArg List.length HE.out
              rw [hgl, h2] at cH
              simp at cH
            · exact h
          have z7 : w.heap.size + 2 ≤ w7.heap.size := Nat.le_trans aB.z aA.size
          have dF : ApI w w7 ((e : Int) + 1) b N L us i ap m t L' n' → True := fun _ => trivial
          have dG : Hid ((lookE L' u.id ++ [u.key]).length ≤ 1000000) := Lib.hid (by
            have h1 := hgl
            rw [HE.out] at h1
            rw [h1]; exact HL.out)
          have bM : t.len ≤ 1000000000000 := by rw [Tr.len_pairs, aB.prs, Cr]; have := aB.len; omega
          obtain ⟨dI, dJ⟩ := Uy (key := u.key) aB.okt aB.prs aF
          have eV := B3k (key := u.key) aB.okt aB.prs aF
          have dK := aB.ok.with aF aD.key
          have dL : Hid (Ea u.id u.key L' = applyE (us.take (i + 1)) L) := Lib.hid (by
            have e1 : us.take (i + 1) = us.take i ++ [u] := by rw [List.take_add_one, Hu.out]; rfl
            unfold applyE
            rw [e1, List.foldl_append]
            show _ = Ta (applyE (us.take i) L) u
            rw [← aB.eq]
            unfold Ta
            rw [hnb]; rfl)
          have dM : Hid (∀ x, (lookE (Ea u.id u.key L') x).length ≤ (lookE L x).length + (i + 1)) := Lib.hid (fun x => by
            rw [Lf aB.ok aF aD.key x]
            by_cases hx : x = u.id
            · rw [if_pos hx, hx]; have := aB.lks u.id; simp; omega
            · rw [if_neg hx]; have := aB.lks x; omega)
          have bN := aB.okt
          have eW := aB.hn
          have eX := aB.len
          have eY := aD.key
          clear aW aH aA aC aB aU aQ ku cF bK hD f1 f2 dF
          have S7 : Below w7.heap.size w7 w7.drew := (Below.refl _ _).drew
          have dO := Lib.hid ((cG.below S7).more S7.size)
          clear cG
          refine E3 (fun W => Bk W gu 48 (Cj u)) (by kernel_rfl) ?_
          refine C5 (A := ?eZ) [0, 2, 3, 4] (by kernel_rfl) (by kernel_rfl) rfl (by kernel_rfl) (by kernel_rfl) aM.drew (h := fun W hW => ?dQ) (hr := ?fB)
          case dQ =>
            have f2 := UV.loadid hW aD
            simp only [pick, List.getElem?_cons_zero, List.getElem?_cons_succ]
            repeat (go_big_quiet_step (fail))
            refine wpQuiet_nil ?_
            rfl
          refine Bm [zv 1 46 (.agg #[.pointer ap, .int .i64 0]), zv 5 50 (A8 (Ah (lookE L' u.id ++ [u.key])))] (by kernel_rfl) (fun W hW => aM.drew.below hW aM.drew.lt) ?dS ?dT ?dU
          case dS => exact List.forall_mem_cons.2 ⟨P8 _ _ _, List.forall_mem_cons.2 ⟨P8 _ _ _, fun _ h => by cases h⟩⟩
          case dT =>
            refine List.forall_mem_cons.2 ⟨?fC, List.forall_mem_cons.2 ⟨?fD, fun _ h => by cases h⟩⟩
            case fC =>
              intro o ho us W hW hp Q' hQ'
              obtain rfl := Option.some.inj ho
              clear hp ho
              have f1 : D9 W ⟨w.heap.size, 1, none⟩ 2 = some [.pointer ap, .int .i64 0] := (aY.drew.below hW aY.drew.lt).row (o := 1) (n := 2) (by simp)
              rw [C2] at hQ' ⊢
              dsimp only [E5, E6, List.foldl, zv] at hQ' ⊢
              simp only [List.set_cons_succ, List.set_cons_zero]
              go_wp2_with fail
              exact C9 (hQ' _ _ (Below.refl _ _) rfl (fun h => by cases h)) (by kernel_rfl)
            case fD =>
              intro o ho us W hW hp Q' hQ'
              obtain rfl := Option.some.inj ho
              clear hp ho
              rw [C2] at hQ' ⊢
              dsimp only [E5, E6, List.foldl, zv] at hQ' ⊢
              simp only [List.set_cons_succ, List.set_cons_zero]
              have dW := Lib.hid ((dO.out.below hW).more hW.size)
              go_wp2_with fail
              refine (Rl _ (lookE L' u.id ++ [u.key]) W dW.out dG.out).mono ?_
              rintro x w8 ⟨rfl, b8⟩
              go_wp2_with fail
              exact C9 (hQ' _ _ b8 rfl (fun h => by cases h)) (by kernel_rfl)
          case dU =>
          intro vs w8 b8 hg bO dX
          have cI : vs 1 = .agg #[.pointer ap, .int .i64 0] := hg _ (List.mem_of_getElem? (i := 0) rfl)
          have cJ : vs 5 = A8 (Ah (lookE L' u.id ++ [u.key])) := hg _ (List.mem_of_getElem? (i := 1) rfl)
          rw [C2]
          dsimp only [E6, List.foldl, zv]
          simp only [List.set_cons_succ, List.set_cons_zero]
          rw [cI, cJ]
          clear hg bO dX cI cJ
          have bP := aY.drew.below b8 aY.drew.lt
          have bQ := aM.drew.below b8 aM.drew.lt
          refine C3 6 (by kernel_rfl) (by rfl) (by rfl) (fun Q' hQ' => ?_)
          dsimp only [E5]
          have aT := Lib.hid hQ'
          clear hQ'
          go_wp2_with fail
          refine (B2y u.id (Ah (lookE L' u.id ++ [u.key])) aF (Dn _) 0 t P0 (.pointer ap) w8 (by omega) (fun i hi => by omega) bN bM (((aZ.below S7).more S7.size).below b8 |>.more b8.size)).mono ?_
          rintro x w9 ⟨q2, rfl, aL, b9⟩
          obtain ⟨bA, rfl⟩ := aL.form
          have bB := bP.below b9 bP.lt
          have bC := bQ.below b9 bQ.lt
          have aN : Below w7.heap.size w7 w9 := C1 (C1 S7 b8 S7.size) b9 (Nat.le_trans S7.size b8.size)
          have aG : E7 w9 ⟨w.heap.size, 1, none⟩ 2 = true := bB.can (by simp)
          go_wp2_with fail
          refine aT.out _ _ bC ?_
          clear aT
          refine C3 7 (by kernel_rfl) (by rfl) (by rfl) (fun Q' hQ' => ?_)
          dsimp only [E5]
          go_wp2_with fail
          refine hQ' _ _ bC ?_
          clear hQ'
          refine C3 8 (by kernel_rfl) (by rfl) (by rfl) (fun Q' hQ' => ?_)
          dsimp only [E5]
          go_wp2_with fail
          obtain ⟨wf, aE⟩ : ∃ x, x = C4 w9 ⟨w.heap.size, 1, none⟩ [.pointer bA, .int .i64 0] := ⟨_, rfl⟩
          rw [← aE]
          have dY : Bk wf w.heap.size 56 [.int .i64 ((e : Int) + 1), .pointer bA, .int .i64 0, .map (some b)] := by rw [aE]; exact (bB.set_ 1 _).set_ 2 _
          have dZ : Bk wf (w.heap.size + 1) 56 [.int .i64 0, .pointer none, .int .i64 0, .map none] := by rw [aE]; exact (bL.below aN bL.lt).putFar (by simp) _
          have eB : Bk wf gu 48 (Cj u) := by
            rw [aE]
            exact bC.putFar (fun hc => by
              have h1 := bC
              rw [hc] at h1
              exact Bk.apart h1 bB (by decide) rfl) _
          have zf : w.heap.size + 2 ≤ wf.heap.size := by rw [aE]; have := aN.size; simp; omega
          have eC : ApI w wf ((e : Int) + 1) b N L us (i + 1) bA (B2j m u.id (.slice Ar nk cr)) (A1n t u.id (Ah (lookE L' u.id ++ [u.key]))) (Ea u.id u.key L') (n' + 1) :=
            { eq := dL.out, hn := by omega, kd := dY, kr := dZ,
              mv := by rw [aE]; exact (cE.below aN (Nat.le_refl _)).kept (row := some w.heap.size) (X4 w9 _ 1 _) (by simp; omega),
              ks := by rw [aE]; exact fun k => ((aX k).up aN B7.size).put (Nat.le_refl _) (by omega),
              ok := dK, okt := dI, prs := dJ,
              tr := by rw [aE]; unfold A1n; have := At.put_ bB (by decide) 1 [.pointer bA, .int .i64 0] aL; simpa using this,
              len := by omega, lks := dM.out,
              below := by rw [aE]; exact C0 (C1 B7 aN B7.size) (Nat.le_refl _) _,
              z := zf, zb := dD }
          refine hQ' _ _ eB ?_
          clear hQ' bB bC aG aL b9 b8 aN bP bQ aX cE aY bL aM aZ aE
          refine F0 (by kernel_rfl) ?_
          go_wp2_with fail
          go_roundw
          case rel => exact ⟨i + 1, bA, _, _, _, n' + 1, by omega, by go_num, eC⟩
          case measure => simp [intOf]; omega
      · obtain rfl : i = n := by omega
        have hd : decide ((i : Int) < (i : Int)) = false := decide_eq_false (by omega)
        have c0 := hA.kd.row (o := 0) (n := 4) (by simp)
        have aG : E7 wr ⟨w.heap.size + 1, 0, none⟩ 4 = true := hA.kr.can (by simp)
        go_wp2_with fail
        have Bf := C0 (a := ⟨w.heap.size + 1, 0, none⟩) hA.below (Nat.le_succ _) [.int .i64 ((e : Int) + 1), .pointer ap, .int .i64 0, .map (some b)]
        have bR : applyE us L = L' := by rw [hA.eq, List.take_of_length_le (by rw [← HN.out]; exact Nat.le_refl _)]
        refine bodyPost_ret (C7 rfl _ _ _ _ _ _ rfl (hA.kr.puts (vs := [.int .i64 ((e : Int) + 1), .pointer ap, .int .i64 0, .map (some b)]) (by simp)) Rx rfl (by simp [Te])) rfl
          ⟨_, rfl, ⟨ap, .map (some b), m, t, rfl, .inr ⟨b, n', hA.hn, rfl, ?_⟩, ?_, ?_, hA.okt, ?_, ?_⟩, Bf⟩
        · exact hA.mv.kept (row := some (w.heap.size + 1)) (X4 wr _ 0 _) (by have := hA.zb; simp; omega)
        · rw [bR]
          exact fun k => ((hA.ks k).put (by omega) (by omega)).ks (by have := hA.below.size; simpa using this)
        · rw [bR]; exact hA.ok
        · rw [bR]; exact hA.prs
        · have := At.put_ hA.kr (by decide) 0 [.int .i64 ((e : Int) + 1), .pointer ap, .int .i64 0, .map (some b)] hA.tr
          simpa using this
  case inr =>
    have hq := fun w => run_eql_map_nil_sl (P := Tryz.prog) w 54 _ _ (some b) Tryz.underlying54
    obtain ⟨w3, aI⟩ : ∃ x, x = w2.setCell ⟨w.heap.size, 3, none⟩ (.map (some b)) := ⟨_, rfl⟩
    have bY : Bk w3 w.heap.size 56 [.int .i64 ((e : Int) + 1), .pointer ap, .int .i64 0, .map (some b)] := by rw [aI]; exact bS.set_ 3 _
    have bZ : Bk w3 (w.heap.size + 1) 56 [.int .i64 0, .pointer none, .int .i64 0, .map none] := by rw [aI]; exact cL.far (by simp) _
    have B3 : Below w.heap.size w w3 := by rw [aI]; exact B2.setCell (Nat.le_refl _) _
    have cA : MapV w3 b n0 m := by rw [aI]; exact hM2.setCell (by simp; omega) _
    have z4 : w.heap.size + 2 ≤ w3.heap.size := by rw [aI]; simpa using z2
    have A0 : ApI w w3 ((e : Int) + 1) b N L us 0 ap m t L n0 := ⟨rfl, cM, bY, bZ, cA, fun k => KSx.of (hK k) B3, cK, okt, hp, (bU.below B3).more B3.size, Nat.le_refl _, fun x => Nat.le_refl _, B3, z4, z3⟩
    clear bY bZ B3 cA
    go_wp2_with fail
    rw [← aI]
    clear aI hq d3 f3 hM2 bS cL B2 eM bX z2 b2
    obtain ⟨m0, cB⟩ : ∃ m0 : List UInt8 → Option Value, m0 = m := ⟨_, rfl⟩
    rw [← cB] at A0
    clear cB
    obtain ⟨tp, cC⟩ : ∃ tp, ApI w w3 ((e : Int) + 1) b N L us 0 ap m0 tp L n0 := ⟨t, A0⟩
    clear A0 okt hp cK hK bU B1
    go_loopw [24] (fun x wr => ∃ (i : Nat) (ap : Option Addr) (m : List UInt8 → Option Value) (t : Tr) (L' : List En) (n' : Nat), i ≤ n ∧ x = .int .i64 (i : Int) ∧ ApI w wr ((e : Int) + 1) b N L us i ap m t L' n') (fun x _ => n - (intOf x).toNat)
    case atStart => exact ⟨0, ap, _, tp, L, n0, by omega, rfl, cC⟩
    case round =>
      clear cC
      obtain ⟨i, ap, m, t, L', n', hi, rfl, hA⟩ := hrel
      by_cases hlt : i < n
      · have hd : decide ((i : Int) < (n : Int)) = true := decide_eq_true (by omega)
        have eQ : decide (i < n) = true := decide_eq_true hlt
        have bD : i < us.length := by rw [← HN.out]; exact hlt
        obtain ⟨u, hu⟩ : ∃ u, us[i]? = some u := ⟨_, List.getElem?_eq_getElem bD⟩
        obtain ⟨g, o, rfl, ⟨aO, tl, aP, bG⟩, hg⟩ : ∃ g o, A = some ⟨g, o, none⟩ ∧ (∃ aO tl, o = aO.length * 129 ∧ UH w g (aO ++ us) tl) ∧ g < w.heap.size := by
          rcases HU.out with ⟨h1, _⟩ | ⟨g, o, tl, c', aO, h1, h0, h2, h3⟩
          · rw [h1] at bD; simp at bD
          · injection h1 with h1; exact ⟨g, o, h1, ⟨aO, tl, h0, h2⟩, h3⟩
        have aD : u.Ok := bG.1 u (List.mem_append_right _ (List.mem_of_getElem? hu))
        have cR := UH.rowO (bG.below hA.below hg) aP hu
        have aF := aD.id
        have cD := aD.len
        have Hu := Lib.hid hu
        clear bG bD hu aP
        obtain ⟨w4, bE⟩ : ∃ x, x = C4 (wr.alloc (Obj.cells (Cj (uvz 129)).toArray 48)) ⟨wr.heap.size, 0, none⟩ (Cj u) := ⟨_, rfl⟩
        have aG := (Bk.new wr 48 (Cj (uvz 129))).canvc (n := 129) (Vq _).len
        have ku : Bk w4 wr.heap.size 48 (Cj u) := by rw [bE]; exact (Bk.new wr 48 (Cj (uvz 129))).putvc (n := 129) (Vq _).len cD
        have aQ := hA.up (w' := w4) (by rw [bE]; exact C0 ((Below.refl _ _).alloc (Nat.le_refl _) _) (Nat.le_refl _) _)
        clear hA
        go_wp2_with fail
        rw [← bE]
        clear bE aG cR
        generalize wr.heap.size = gu at *
        have bH := (aQ.ks u.id).ks aQ.below.size
        obtain ⟨kv, bI⟩ : ∃ v, v = (m u.id).getD (.slice none 0 0) := ⟨_, rfl⟩
        have cS := Lib.hid bI
        rw [← bI] at bH
        clear bI
        have S0 : Below w4.heap.size w4 w4.drew := (Below.refl _ _).drew
        have aR := aQ.up S0
        have aS := Lib.hid aR
        have bF := ku.below S0 ku.lt
        have cT := Lib.hid (bH.up S0)
        clear bH
        refine E3 (fun W => MapV W b n' m ∧ Bk W w.heap.size 56 [.int .i64 ((e : Int) + 1), .pointer ap, .int .i64 0, .map (some b)] ∧ Bk W gu 48 (Cj u)) (by kernel_rfl) ?_
        refine C5 (A := ?fE) [0, 1, 2, 3, 4, 5] (by kernel_rfl) (by kernel_rfl) rfl (by kernel_rfl) (by kernel_rfl) ⟨aR.mv, aR.kd, bF⟩ (h := fun W hW => ?eD) (hr := ?fF)
        case eD =>
          have f1 : W.cell? ⟨w.heap.size, 3, none⟩ = some (.map (some b)) := hW.2.1.at_ (i := 3) rfl
          have f2 := UV.loadid hW.2.2 aD
          have f3 := hW.1.look aF
          rw [← cS.out] at f3
          have f4 := Bk.rowvc (n := 129) hW.2.2 cD
          simp only [pick, List.getElem?_cons_zero, List.getElem?_cons_succ]
          repeat (go_big_quiet_step (fail))
          refine wpQuiet_nil ?_
          rfl
        refine C3 6 (by kernel_rfl) (by rfl) (by rfl) (fun Q' hQ' => ?_)
        dsimp only [E5]
        have aT := Lib.hid hQ'
        clear hQ'
        go_wp2_with fail
        refine (B0z kv (lookE L' u.id) u aD w4.drew cT.out (by have := aS.out.lks u.id; have := hks u.id; omega)).mono ?_
        rintro x w6 ⟨r, rfl, aJ, b6⟩
        have aB := aR.up b6
        have aU := bF.below b6 bF.lt
        obtain ⟨Ar, cr, rfl, cV, cW⟩ := aJ.form
        have aK := Lib.hid aJ
        clear aJ
        go_wp2_with fail
        refine aT.out _ _ ⟨aB.mv, aB.kd, aU⟩ ?_
        clear aT
        refine C5 (A := ?fG) [7, 8, 9, 10, 11] (by kernel_rfl) (by kernel_rfl) rfl (by kernel_rfl) (by kernel_rfl) ⟨aB.mv, aB.kd, aU⟩ (h := fun W hW => ?eE) (hr := ?fH)
        case eE =>
          simp only [List.append_eq, List.nil_append, List.cons_append, pick, List.getElem?_cons_zero, List.getElem?_cons_succ]
          repeat (go_big_quiet_step (fail))
          refine wpQuiet_nil ?_
          rfl
        refine F0 (by kernel_rfl) ?_
        clear aR aS bF b6 S0
        cases hnb : Ju (lookE L' u.id) u with
        | false =>
          have cY : (Hx (lookE L' u.id) u == 0) = false := by
            cases hz : (Hx (lookE L' u.id) u == 0) with
            | false => rfl
            | true => rw [beq_iff_eq, Kx] at hz; rw [hz] at hnb; cases hnb
          have cZ := Lib.hid (aB.skip Hu.out hnb)
          go_wp2_with fail
          go_roundw
          case rel => exact ⟨i + 1, ap, m, t, L', n', by omega, by go_num, cZ.out⟩
          case measure => simp [intOf]; omega
        | true =>
          have cY : (Hx (lookE L' u.id) u == 0) = true := by rw [beq_iff_eq, Kx]; exact hnb
          have bJ := A5b hnb
          have aV : (Il (lookE L' u.id) u).length ≤ 1000000 := by
            rw [bJ]; simp
            have := aB.lks u.id; have := hks u.id; omega
          obtain ⟨D, hD, aW⟩ := aB.mv.put aF (.slice Ar (Il (lookE L' u.id) u).length cr)
          have f1 : w6.cell? ⟨w.heap.size, 3, none⟩ = some (.map (some b)) := aB.kd.at_ (i := 3) rfl
          have f2 := UV.loadid aU aD
          have dC : n' < maxLen := by have := aB.hn; unfold maxLen; omega
          have HE := Lib.hid bJ
          have HL := Lib.hid aV
          clear bJ aV
          generalize hgl : (Il (lookE L' u.id) u).length = nk at *
          go_wp2_with (first | (at_mapUpdate; refine wpList_mapUpdate_own _ rfl _ _ _ 54 rfl 35 26 Gq Tryz.underlying54 RV b n' D rfl hD dC _ _ (Zz u.id) rfl rfl (Kp aF) (.held (.slice Ar nk cr)) [] rfl ?_; intro w7 aH aA) | fail)
          dsimp only [Act.put]
          have aC := aB.mv.row
          have cE := aW w7 aH
          have z6 : w.heap.size + 2 ≤ w4.drew.heap.size := aQ.z
          have cF : KSx w6 w.heap.size (.slice Ar nk cr) (lookE L' u.id ++ [u.key]) := by
            have h1 := aK.out.hs
            rw [HE.out] at h1
            exact .inr ⟨.inr (h1.less z6), by simp, Xy aK.out.2⟩
          have bK := cF.own aA aC
          have aX : KeysX w7 w.heap.size (B2j m u.id (.slice Ar nk cr)) (lookE (Ea u.id u.key L')) := KeysX.set (fun k => (aB.ks k).own aA aC) bK (fun x => Lf aB.ok aF aD.key x)
          have aY := Nu aB.kd aA aC
          have bL := Nu aB.kr aA aC
          have aM := Nu aU aA aC
          have aZ := (A2b aA aC aB.tr).more aA.size
          have dD := aB.zb
          have B7 := aB.below.grown aA aB.below.size (fun k hk => by cases hk; omega)
          have cG : Hs w7 0 w7.heap.size (.slice Ar nk cr) (lookE L' u.id ++ [u.key]) := by
            rcases bK.ks B7.size with ⟨h, _⟩ | ⟨h, _⟩
            · injection h with h1 h2 h3
              have := aK.out.form
              obtain ⟨_, _, e, _⟩ := this
              have cH := congrArg List.length HE.out
              rw [hgl, h2] at cH
              simp at cH
            · exact h
          have z7 : w.heap.size + 2 ≤ w7.heap.size := Nat.le_trans aB.z aA.size
          have dF : ApI w w7 ((e : Int) + 1) b N L us i ap m t L' n' → True := fun _ => trivial
          have dG : Hid ((lookE L' u.id ++ [u.key]).length ≤ 1000000) := Lib.hid (by
            have h1 := hgl
            rw [HE.out] at h1
            rw [h1]; exact HL.out)
          have bM : t.len ≤ 1000000000000 := by rw [Tr.len_pairs, aB.prs, Cr]; have := aB.len; omega
          obtain ⟨dI, dJ⟩ := Uy (key := u.key) aB.okt aB.prs aF
          have eV := B3k (key := u.key) aB.okt aB.prs aF
          have dK := aB.ok.with aF aD.key
          have dL : Hid (Ea u.id u.key L' = applyE (us.take (i + 1)) L) := Lib.hid (by
            have e1 : us.take (i + 1) = us.take i ++ [u] := by rw [List.take_add_one, Hu.out]; rfl
            unfold applyE
            rw [e1, List.foldl_append]
            show _ = Ta (applyE (us.take i) L) u
            rw [← aB.eq]
            unfold Ta
            rw [hnb]; rfl)
          have dM : Hid (∀ x, (lookE (Ea u.id u.key L') x).length ≤ (lookE L x).length + (i + 1)) := Lib.hid (fun x => by
            rw [Lf aB.ok aF aD.key x]
            by_cases hx : x = u.id
            · rw [if_pos hx, hx]; have := aB.lks u.id; simp; omega
            · rw [if_neg hx]; have := aB.lks x; omega)
          have bN := aB.okt
          have eW := aB.hn
          have eX := aB.len
          have eY := aD.key
          clear aW aH aA aC aB aU aQ ku cF bK hD f1 f2 dF
          have S7 : Below w7.heap.size w7 w7.drew := (Below.refl _ _).drew
          have dO := Lib.hid ((cG.below S7).more S7.size)
          clear cG
          refine E3 (fun W => Bk W gu 48 (Cj u)) (by kernel_rfl) ?_
          refine C5 (A := ?fI) [0, 2, 3, 4] (by kernel_rfl) (by kernel_rfl) rfl (by kernel_rfl) (by kernel_rfl) aM.drew (h := fun W hW => ?eF) (hr := ?fJ)
          case eF =>
            have f2 := UV.loadid hW aD
            simp only [pick, List.getElem?_cons_zero, List.getElem?_cons_succ]
            repeat (go_big_quiet_step (fail))
            refine wpQuiet_nil ?_
            rfl
          refine Bm [zv 1 46 (.agg #[.pointer ap, .int .i64 0]), zv 5 50 (A8 (Ah (lookE L' u.id ++ [u.key])))] (by kernel_rfl) (fun W hW => aM.drew.below hW aM.drew.lt) ?eG ?eH ?eI
          case eG => exact List.forall_mem_cons.2 ⟨P8 _ _ _, List.forall_mem_cons.2 ⟨P8 _ _ _, fun _ h => by cases h⟩⟩
          case eH =>
            refine List.forall_mem_cons.2 ⟨?fK, List.forall_mem_cons.2 ⟨?fL, fun _ h => by cases h⟩⟩
            case fK =>
              intro o ho us W hW hp Q' hQ'
              obtain rfl := Option.some.inj ho
              clear hp ho
              have f1 : D9 W ⟨w.heap.size, 1, none⟩ 2 = some [.pointer ap, .int .i64 0] := (aY.drew.below hW aY.drew.lt).row (o := 1) (n := 2) (by simp)
              rw [C2] at hQ' ⊢
              dsimp only [E5, E6, List.foldl, zv] at hQ' ⊢
              simp only [List.set_cons_succ, List.set_cons_zero]
              go_wp2_with fail
              exact C9 (hQ' _ _ (Below.refl _ _) rfl (fun h => by cases h)) (by kernel_rfl)
            case fL =>
              intro o ho us W hW hp Q' hQ'
              obtain rfl := Option.some.inj ho
              clear hp ho
              rw [C2] at hQ' ⊢
              dsimp only [E5, E6, List.foldl, zv] at hQ' ⊢
              simp only [List.set_cons_succ, List.set_cons_zero]
              have dW := Lib.hid ((dO.out.below hW).more hW.size)
              go_wp2_with fail
              refine (Rl _ (lookE L' u.id ++ [u.key]) W dW.out dG.out).mono ?_
              rintro x w8 ⟨rfl, b8⟩
              go_wp2_with fail
              exact C9 (hQ' _ _ b8 rfl (fun h => by cases h)) (by kernel_rfl)
          case eI =>
          intro vs w8 b8 hg bO dX
          have cI : vs 1 = .agg #[.pointer ap, .int .i64 0] := hg _ (List.mem_of_getElem? (i := 0) rfl)
          have cJ : vs 5 = A8 (Ah (lookE L' u.id ++ [u.key])) := hg _ (List.mem_of_getElem? (i := 1) rfl)
          rw [C2]
          dsimp only [E6, List.foldl, zv]
          simp only [List.set_cons_succ, List.set_cons_zero]
          rw [cI, cJ]
          clear hg bO dX cI cJ
          have bP := aY.drew.below b8 aY.drew.lt
          have bQ := aM.drew.below b8 aM.drew.lt
          refine C3 6 (by kernel_rfl) (by rfl) (by rfl) (fun Q' hQ' => ?_)
          dsimp only [E5]
          have aT := Lib.hid hQ'
          clear hQ'
          go_wp2_with fail
          refine (B2y u.id (Ah (lookE L' u.id ++ [u.key])) aF (Dn _) 0 t P0 (.pointer ap) w8 (by omega) (fun i hi => by omega) bN bM (((aZ.below S7).more S7.size).below b8 |>.more b8.size)).mono ?_
          rintro x w9 ⟨q2, rfl, aL, b9⟩
          obtain ⟨bA, rfl⟩ := aL.form
          have bB := bP.below b9 bP.lt
          have bC := bQ.below b9 bQ.lt
          have aN : Below w7.heap.size w7 w9 := C1 (C1 S7 b8 S7.size) b9 (Nat.le_trans S7.size b8.size)
          have aG : E7 w9 ⟨w.heap.size, 1, none⟩ 2 = true := bB.can (by simp)
          go_wp2_with fail
          refine aT.out _ _ bC ?_
          clear aT
          refine C3 7 (by kernel_rfl) (by rfl) (by rfl) (fun Q' hQ' => ?_)
          dsimp only [E5]
          go_wp2_with fail
          refine hQ' _ _ bC ?_
          clear hQ'
          refine C3 8 (by kernel_rfl) (by rfl) (by rfl) (fun Q' hQ' => ?_)
          dsimp only [E5]
          go_wp2_with fail
          obtain ⟨wf, aE⟩ : ∃ x, x = C4 w9 ⟨w.heap.size, 1, none⟩ [.pointer bA, .int .i64 0] := ⟨_, rfl⟩
          rw [← aE]
          have dY : Bk wf w.heap.size 56 [.int .i64 ((e : Int) + 1), .pointer bA, .int .i64 0, .map (some b)] := by rw [aE]; exact (bB.set_ 1 _).set_ 2 _
          have dZ : Bk wf (w.heap.size + 1) 56 [.int .i64 0, .pointer none, .int .i64 0, .map none] := by rw [aE]; exact (bL.below aN bL.lt).putFar (by simp) _
          have eB : Bk wf gu 48 (Cj u) := by
            rw [aE]
            exact bC.putFar (fun hc => by
              have h1 := bC
              rw [hc] at h1
              exact Bk.apart h1 bB (by decide) rfl) _
          have zf : w.heap.size + 2 ≤ wf.heap.size := by rw [aE]; have := aN.size; simp; omega
          have eC : ApI w wf ((e : Int) + 1) b N L us (i + 1) bA (B2j m u.id (.slice Ar nk cr)) (A1n t u.id (Ah (lookE L' u.id ++ [u.key]))) (Ea u.id u.key L') (n' + 1) :=
            { eq := dL.out, hn := by omega, kd := dY, kr := dZ,
              mv := by rw [aE]; exact (cE.below aN (Nat.le_refl _)).kept (row := some w.heap.size) (X4 w9 _ 1 _) (by simp; omega),
              ks := by rw [aE]; exact fun k => ((aX k).up aN B7.size).put (Nat.le_refl _) (by omega),
              ok := dK, okt := dI, prs := dJ,
              tr := by rw [aE]; unfold A1n; have := At.put_ bB (by decide) 1 [.pointer bA, .int .i64 0] aL; simpa using this,
              len := by omega, lks := dM.out,
              below := by rw [aE]; exact C0 (C1 B7 aN B7.size) (Nat.le_refl _) _,
              z := zf, zb := dD }
          refine hQ' _ _ eB ?_
          clear hQ' bB bC aG aL b9 b8 aN bP bQ aX cE aY bL aM aZ aE
          refine F0 (by kernel_rfl) ?_
          go_wp2_with fail
          go_roundw
          case rel => exact ⟨i + 1, bA, _, _, _, n' + 1, by omega, by go_num, eC⟩
          case measure => simp [intOf]; omega
      · obtain rfl : i = n := by omega
        have hd : decide ((i : Int) < (i : Int)) = false := decide_eq_false (by omega)
        have c0 := hA.kd.row (o := 0) (n := 4) (by simp)
        have aG : E7 wr ⟨w.heap.size + 1, 0, none⟩ 4 = true := hA.kr.can (by simp)
        go_wp2_with fail
        have Bf := C0 (a := ⟨w.heap.size + 1, 0, none⟩) hA.below (Nat.le_succ _) [.int .i64 ((e : Int) + 1), .pointer ap, .int .i64 0, .map (some b)]
        have bR : applyE us L = L' := by rw [hA.eq, List.take_of_length_le (by rw [← HN.out]; exact Nat.le_refl _)]
        refine bodyPost_ret (C7 rfl _ _ _ _ _ _ rfl (hA.kr.puts (vs := [.int .i64 ((e : Int) + 1), .pointer ap, .int .i64 0, .map (some b)]) (by simp)) Rx rfl (by simp [Te])) rfl
          ⟨_, rfl, ⟨ap, .map (some b), m, t, rfl, .inr ⟨b, n', hA.hn, rfl, ?_⟩, ?_, ?_, hA.okt, ?_, ?_⟩, Bf⟩
        · exact hA.mv.kept (row := some (w.heap.size + 1)) (X4 wr _ 0 _) (by have := hA.zb; simp; omega)
        · rw [bR]
          exact fun k => ((hA.ks k).put (by omega) (by omega)).ks (by have := hA.below.size; simpa using this)
        · rw [bR]; exact hA.ok
        · rw [bR]; exact hA.prs
        · have := At.put_ hA.kr (by decide) 0 [.int .i64 ((e : Int) + 1), .pointer ap, .int .i64 0, .map (some b)] hA.tr
          simpa using this
theorem B7m (dv:Value) (e:Nat) (L:List En) (N:Nat) (us:List UV) (v:Value) (w:World) (hD:Cw w dv e L N) (hU:US w w.heap.size v us) (he:e≤1000000000) (hN:N+us.length≤1000000000) (hLl:L.length+us.length≤1000000000) (hks:∀x,(lookE L x).length+us.length≤1000000) :
 Calls Tryz.prog 16 #[dv,v] w fun x w'=>∃dv',x=.returned dv'∧Cw w' dv' (e+1) (applyE us L) (N+us.length)∧Below w.heap.size w w':=
 B1a dv e L N us v w hD hU.so he hN hLl hks
end
section
variable {P : Program} {ops : Array Oper} {rest : List Oper} {o : Oper} {a : Act} {Q : Exit → Act → World → Prop} {w : World} {base n : Nat} {v : Value} {xs : List Value}
theorem A8f (t e:TypeId) (z:Value) (sz bytes:Nat) (ht:P.underlying t=some (.slice e)) (hinf:(P.info? e).map (fun i=>(i.zero,i.size,i.bytes))=some (some z,sz,bytes)) (hzs:z.cells.size=sz) (hpos:0<sz) (hby:bytes≤1024)
 (hgd:o.guard=none) (s x:Operand) (ho:o.op=.call { callee:=.builtin .append,args:=#[s,x],argTypes:=#[t,t] })
 (hs:a.eval s=v) (hown:w.ownsRow base e sz v n xs) (ys:List Value) (hl:ys.length=sz) (hone:∀u∈ys,u.oneCell'=true) (cs:Array Value) (hcs:cs=ys.toArray) {N:Nat} (hx:a.eval x=.slice (some ⟨N,0,none⟩) 1 1) (hN:w.heap.size=N) (hsz:n+1≤68719476736) (hb:base≤w.heap.size)
 (h:∀A c w',n+1≤c→c≤9223372036854775807→w'.ownsRow base e sz (.slice A (n+1) c) (n+1) (xs++ys)→Below base w w'→w.grownBy w' v.ownBlock→((Value.slice A (n+1) c).ownBlock=v.ownBlock∨(Value.slice A (n+1) c).ownBlock=some (w.heap.size+1))→wpList P ops Q rest (a.put o.dst (.slice A (n+1) c)) w'):wpList P ops Q (o::rest) a (w.alloc (.cells cs e)):=by
 subst hcs hN;have hB:=Bk.new w e ys;have aA:w.grownBy (w.alloc (.cells ys.toArray e)) v.ownBlock:=⟨rfl,rfl,rfl,by simp,fun k hk _=>Below.heap_alloc _ _ _ hk⟩;refine D1h t z bytes ht hinf hzs hpos hby hgd s x ho hs (World.ownsRow.alloc hown (.cells ys.toArray e)) (some ⟨w.heap.size,0,none⟩) 1 1 hx ys (by rw[hl,Nat.one_mul]) 0 (w.alloc (.cells ys.toArray e)).heap.size
  (.inr ⟨w.heap.size,0,rfl,Nat.zero_le _,by simp,fun j u hj=>by rw[Nat.zero_add];exact hB.at_ hj⟩) hone hsz (by simp;omega) ?_
 intro A' c' w' h1 h2 h3 h4 h5 h6;refine h A' c' w' h1 h2 h3 (((Below.refl _ _).alloc hb _).trans h4) (aA.trans h5) ?_;rcases h6 with h6 | h6
 ·exact .inl h6
 ·exact .inr (by simpa using h6)
theorem A3u {T T':TypeId} {base' n' sz sz':Nat} {v':Value} {xs':List Value} (h:w.ownsRow base T sz v n xs) (h':w.ownsRow base' T' sz' v' n' xs') (hT:T≠T'):v.ownBlock=none∨v.ownBlock≠v'.ownBlock:=by
 rcases h.2 with ⟨hv,_⟩ | ⟨g,cap,cur,hv,hg,hh,_⟩
 ·left;simp[hv,Value.ownBlock]
 ·rcases h'.2 with ⟨hv',_⟩ | ⟨g',cap',cur',hv',hg',hh',_⟩
  ·right;simp[hv,hv',Value.ownBlock]
  ·right
   intro e;rw[hv,hv']at e;simp only[Value.ownBlock,Option.some.injEq]at e;subst e;rw[hh]at hh';injection hh' with hh';injection hh' with _ h2;exact hT h2
end
section
theorem C2x:Tryz.prog.underlying 73=some (.struct (I2 Tryz.prog 73)):=by kernel_rfl
theorem B8c:(Tryz.prog.info? 73).map (·.size)=some 2:=by kernel_rfl
theorem C0q:RL' 73 2:=LL' C2x B8c
theorem B1h:RS' 73 2:=SS' B8c
attribute [local go_sem ↓ high] C0q B1h
end
section
attribute [local go_sem ↓ high] C0q B1h
end
end Go.Proofs.YtdfpoofbgjilgaaGreat
