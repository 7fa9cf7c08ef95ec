/- A part of the proof of AuditTells. -/
import Derived.Test.YtmllnpokbbabhaaGreatTba
import Derived.Test.YtmllnpokbbabhaaGreatTbc
set_option linter.unusedVariables false
set_option linter.unusedSimpArgs false
set_option maxRecDepth 100000
set_option maxHeartbeats 40000000
namespace Go.Proofs.YtmllnpokbbabhaaGreat
open Go Go.RowKit Sh
section
def MVN (w:World) (mv:Value) (m:List UInt8→Option Value) (N:Nat):Prop:=(mv=.map none∧∀k,m k=none)∨∃b n,n≤N∧mv=.map (some b)∧MapV w b n m
theorem MVN.mv {w:World} {mv:Value} {m:List UInt8→Option Value} {N:Nat} (h:MVN w mv m N):MV w mv m:=by
 rcases h with h | ⟨b,n,_,h1,h2⟩
 ·exact .inl h
 ·exact .inr ⟨b,n,h1,h2⟩
theorem MVN.form {w:World} {mv:Value} {m:List UInt8→Option Value} {N:Nat} (h:MVN w mv m N):mv=.map none∨∃b,mv=.map (some b):=by
 rcases h with h | ⟨b,n,_,h1,h2⟩
 ·exact .inl h.1
 ·exact .inr ⟨b,h1⟩
theorem MVN.up {w w':World} {mv:Value} {m:List UInt8→Option Value} {N:Nat} (h:MVN w mv m N) (hb:Below w.heap.size w w'):MVN w' mv m N:=by
 rcases h with h | ⟨b,n,h0,h1,h2⟩
 ·exact .inl h
 ·exact .inr ⟨b,n,h0,h1,h2.below hb (Nat.le_refl _)⟩
theorem B1g (mv:Value) (m:List UInt8→Option Value) (N:Nat) (w:World) (h:MVN w mv m N) :
 Calls Tryz.prog 25 #[mv] w fun e w'=>((mv=.map none∧e=.returned (.map none)∧(∀k,m k=none))∨∃n,n≤N∧e=.returned (.map (some w.heap.size))∧MapV w' w.heap.size n m)∧Below w.heap.size w w':=by
 rcases h with ⟨rfl,hm⟩ | ⟨b,n,hn,rfl,h⟩
 ·refine (B6n w).mono ?_;rintro e w' ⟨rfl,rfl⟩;exact ⟨.inl ⟨rfl,rfl,hm⟩,Below.refl _ _⟩
 ·obtain⟨D,⟨es,aA,hb,F,hs,hD⟩,hl⟩:=h;refine (B5u b es aA w hb).mono ?_;rintro e w' ⟨rfl,rfl⟩;exact ⟨.inr ⟨n,hn,rfl,D,⟨es,aA,heap_alloc_new w _,F,hs,hD⟩,hl⟩,U7 _ _⟩
theorem MapV.row {w:World} {b n:Nat} {m:List UInt8→Option Value} (h:MapV w b n m):∀r,some b=some r→∃o:Obj,w.heap[r]?=some o∧o.isCells=false:=by
 obtain⟨D,⟨es,aA,hb,_⟩,_⟩:=h;intro r e;injection e with e;subst e;exact ⟨_,hb,rfl⟩
theorem C7h {A B:World} {row:Option Nat} {a:Addr} {u:Value} (h:A.cell? a=some u) (hg:A.grownBy B row) (hr:∀r,row=some r→∃o:Obj,A.heap[r]?=some o∧o.isCells=false):B.cell? a=some u:=by
 have aA:some a.block≠row:=fun e=>by
  obtain⟨o,ho,hc⟩:=hr a.block e.symm;unfold World.cell? at h;rw[ho]at h;cases o<;>cases hc<;>(dsimp only at h;cases h)
 have aB:a.block<A.heap.size:=by
  cases hb:A.heap[a.block]? with
  | none=>unfold World.cell? at h;rw[hb]at h;cases h
  | some o=>exact (Array.getElem?_eq_some_iff.1 hb).1
 unfold World.cell? at h ⊢;rw[hg.block a.block aB aA];exact h
theorem D1j {A B:World} {row:Option Nat} {lo C:Nat} {a:Option Addr} {cs:List Value} (h:Rd A lo C a cs) (hg:A.grownBy B row) (hr:∀r,row=some r→∃o:Obj,A.heap[r]?=some o∧o.isCells=false):Rd B lo C a cs:=by
 rcases h with h | ⟨g,o,h1,h2,h3,h4⟩
 ·exact .inl h
 ·exact .inr ⟨g,o,h1,h2,h3,fun j u hj=>C7h (h4 j u hj) hg hr⟩
def US (w:World) (B:Nat) (v:Value) (us:List UV):Prop:=(us=[]∧v=.slice none 0 0)∨∃g tl c,v=.slice (some ⟨g,0,none⟩) us.length c∧UH w g us tl∧g<B
theorem US.form {w:World} {B:Nat} {v:Value} {us:List UV} (h:US w B v us):∃A c,v=.slice A us.length c:=by
 rcases h with ⟨rfl,rfl⟩ | ⟨g,tl,c,rfl,_,_⟩
 ·exact ⟨none,0,rfl⟩
 ·exact ⟨_,_,rfl⟩
theorem US.below {w w':World} {B:Nat} {v:Value} {us:List UV} (h:US w B v us) (hb:Below B w w'):US w' B v us:=by
 rcases h with h | ⟨g,tl,c,h1,h2,h3⟩
 ·exact .inl h
 ·exact .inr ⟨g,tl,c,h1,h2.below hb h3,h3⟩
theorem US.more {w:World} {B B':Nat} {v:Value} {us:List UV} (h:US w B v us) (hb:B≤B'):US w B' v us:=by
 rcases h with h | ⟨g,tl,c,h1,h2,h3⟩
 ·exact .inl h
 ·exact .inr ⟨g,tl,c,h1,h2,by omega⟩
def DirIs (w:World) (dv:Value) (e:Nat) (L:List En) (N:Nat):Prop:=∃(ap:Option Addr) (mv:Value) (m:List UInt8→Option Value) (t:Tr),dv=.agg #[.int .i64 (e:Int),.pointer ap,.int .i64 0,mv]∧MVN w mv m N∧A5j w m (lookE L)∧OkE L∧Okt t∧t.pairs=pairsE L∧At w w.heap.size t (.pointer ap)
theorem DirIs.nil (w:World):DirIs w (.agg #[.int .i64 0,.pointer none,.int .i64 0,.map none]) 0 [] 0:=⟨none,_,fun _=>none,.e,rfl,.inl ⟨rfl,fun _=>rfl⟩,fun _=>.inl ⟨rfl,rfl⟩,OkE.nil,Okt.nil,rfl,rfl⟩
theorem DirIs.up {w w':World} {dv:Value} {e:Nat} {L:List En} {N:Nat} (h:DirIs w dv e L N) (hb:Below w.heap.size w w'):DirIs w' dv e L N:=by
 obtain⟨ap,mv,m,t,h1,h2,h3,h4,h5,h6,h7⟩:=h;exact ⟨ap,mv,m,t,h1,h2.up hb,h3.up hb,h4,h5,h6,(h7.below hb).more hb.size⟩
theorem Qw:RS' 34 4:=SS' Vk
theorem B9u:RS' 31 2:=SS' A5w
theorem Kg {w:World} {g o:Nat} {vs:List Value} {p:Addr} (h:p.block≠g):(C2 w ⟨g,o,none⟩ vs).cell? p=w.cell? p:=by
 have hg:=S4 w g o vs;by_cases hlt:p.block<w.heap.size
 ·unfold World.cell?;rw[hg.block p.block hlt (by simpa using h)]
 ·have h1:w.heap[p.block]?=none:=Array.getElem?_eq_none (by omega);have h2:(C2 w ⟨g,o,none⟩ vs).heap[p.block]?=none:=Array.getElem?_eq_none (by simp;omega);unfold World.cell?;rw[h1,h2]
def KSx (w:World) (a:Nat) (v:Value) (ks:List (List UInt8)):Prop:=(v=.slice none 0 0∧ks=[])∨((Hs w 0 a v ks∨Hs w (a+2) w.heap.size v ks)∧0<ks.length∧Nx w v.ownBlock 40)
def KeysX (w:World) (a:Nat) (m:List UInt8→Option Value) (K:List UInt8→List (List UInt8)):Prop:=∀k,KSx w a ((m k).getD (.slice none 0 0)) (K k)
theorem KSx.ks {w:World} {a:Nat} {v:Value} {ks:List (List UInt8)} (h:KSx w a v ks) (ha:a≤w.heap.size):KS w v ks:=by
 rcases h with h | ⟨h | h,hn,ht⟩
 ·exact .inl h
 ·exact .inr ⟨h.more ha,hn,ht⟩
 ·exact .inr ⟨h.less (Nat.zero_le _),hn,ht⟩
theorem KSx.of {w w':World} {v:Value} {ks:List (List UInt8)} (h:KS w v ks) (hb:Below w.heap.size w w'):KSx w' w.heap.size v ks:=by
 rcases h with h | ⟨h,hn,ht⟩
 ·exact .inl h
 ·exact .inr ⟨.inl (h.below hb),hn,ht.up hb⟩
theorem KSx.up {w w':World} {a:Nat} {v:Value} {ks:List (List UInt8)} (h:KSx w a v ks) (hb:Below w.heap.size w w') (ha:a≤w.heap.size):KSx w' a v ks:=by
 rcases h with h | ⟨h | h,hn,ht⟩
 ·exact .inl h
 ·exact .inr ⟨.inl (h.below (hb.mono ha)),hn,ht.up hb⟩
 ·exact .inr ⟨.inr ((h.below hb).more hb.size),hn,ht.up hb⟩
theorem KSx.put {w:World} {a g o:Nat} {vs:List Value} {v:Value} {ks:List (List UInt8)} (h:KSx w a v ks) (h1:a≤g) (h2:g<a+2):KSx (C2 w ⟨g,o,none⟩ vs) a v ks:=by
 rcases h with h | ⟨⟨h0,A,c,e1,e2,e3,e4⟩ | ⟨h0,A,c,e1,e2,e3,e4⟩,hn,ht⟩
 ·exact .inl h
 ·exact .inr ⟨.inl ⟨h0,A,c,e1,e2,e3,e4.keep fun p _ hp=>Kg (by omega)⟩,hn,ht.putAt g vs o⟩
 ·exact .inr ⟨.inr ⟨h0,A,c,e1,e2,e3,by have:=e4.keep (w':=C2 w ⟨g,o,none⟩ vs) (fun p hp _=>Kg (by omega));simpa using this⟩,hn,ht.putAt g vs o⟩
theorem KSx.own {A B:World} {row:Option Nat} {a:Nat} {v:Value} {ks:List (List UInt8)} (h:KSx A a v ks) (hg:A.grownBy B row) (hr:∀r,row=some r→∃o:Obj,A.heap[r]?=some o∧o.isCells=false):KSx B a v ks:=by
 rcases h with h | ⟨⟨h0,A,c,e1,e2,e3,e4⟩ | ⟨h0,A,c,e1,e2,e3,e4⟩,hn,ht⟩
 ·exact .inl h
 ·exact .inr ⟨.inl ⟨h0,A,c,e1,e2,e3,D1j e4 hg hr⟩,hn,ht.own hg hr⟩
 ·exact .inr ⟨.inr ⟨h0,A,c,e1,e2,e3,(D1j e4 hg hr).more hg.size⟩,hn,ht.own hg hr⟩
theorem KeysX.set {w:World} {a:Nat} {m:List UInt8→Option Value} {L:List En} (h:KeysX w a m (lookE L)) {id:List UInt8} {r:Value} {K:List (List UInt8)} {L':List En} (hr:KSx w a r K) (hL:∀x,lookE L' x=if x=id then K else lookE L x):KeysX w a (Sd m id r) (lookE L'):=fun x=>by
 rw[hL x];unfold Sd;by_cases e:x=id
 ·rw[if_pos e,if_pos e];exact hr
 ·rw[if_neg e,if_neg e];exact h x
structure ApI (w wr : World) (e : Int) (b N : Nat) (L : List En) (us : List UV) (i : Nat) (ap : Option Addr) (m : List UInt8 → Option Value) (t : Tr) (L' : List En) (n' : Nat) : Prop where
 eq:L'=applyE (us.take i) L
 hn:n'≤N+i
 kd:Bk wr w.heap.size 34 [.int .i64 e,.pointer ap,.int .i64 0,.map (some b)]
 kr:Bk wr (w.heap.size+1) 34 [.int .i64 0,.pointer none,.int .i64 0,.map none]
 mv:MapV wr b n' m
 ks:KeysX wr w.heap.size m (lookE L')
 ok:OkE L'
 okt:Okt t
 prs:t.pairs=pairsE L'
 tr:At wr wr.heap.size t (.pointer ap)
 len:L'.length≤L.length+i
 lks:∀x,(lookE L' x).length≤(lookE L x).length+i
 below:Below w.heap.size w wr
 z:w.heap.size+2≤wr.heap.size
 zb:w.heap.size+2≤b
section
variable {w wr w' : World} {e : Int} {b N : Nat} {L : List En} {us : List UV} {i : Nat} {ap : Option Addr} {m : List UInt8 → Option Value} {t : Tr} {L' : List En} {n' : Nat}
theorem ApI.up (h:ApI w wr e b N L us i ap m t L' n') (hb:Below wr.heap.size wr w'):ApI w w' e b N L us i ap m t L' n':=
 ⟨h.eq,h.hn,h.kd.below hb h.kd.lt,h.kr.below hb h.kr.lt,h.mv.below hb (Nat.le_refl _),fun k=>(h.ks k).up hb h.below.size,h.ok,h.okt,h.prs,(h.tr.below hb).more hb.size,h.len,h.lks,C3 h.below hb h.below.size,Nat.le_trans h.z hb.size,h.zb⟩
theorem ApI.skip (h:ApI w wr e b N L us i ap m t L' n') {u:UV} (hu:us[i]?=some u) (hn:Df (lookE L' u.id) u=false):ApI w wr e b N L us (i+1) ap m t L' n':=
 { h with
  eq:=by
   have hi:=(List.getElem?_eq_some_iff.1 hu).1;have e1:us.take (i+1)=us.take i++[u]:=by rw[List.take_add_one,hu];rfl
   unfold applyE;rw[e1,List.foldl_append];show L'=Cq (applyE (us.take i) L) u;rw[←h.eq];unfold Cq;rw[hn];rfl
  hn:=Nat.le_trans h.hn (by omega)
  len:=Nat.le_trans h.len (by omega)
  lks:=fun x=>Nat.le_trans (h.lks x) (by omega) }
end
def USo (w:World) (B:Nat) (v:Value) (us:List UV):Prop:=(us=[]∧v=.slice none 0 0)∨∃g o tl c,∃pre:List UV,v=.slice (some ⟨g,o,none⟩) us.length c∧o=pre.length*129∧UH w g (pre++us) tl∧g<B
theorem USo.form {w:World} {B:Nat} {v:Value} {us:List UV} (h:USo w B v us):∃A c,v=.slice A us.length c:=by
 rcases h with ⟨h1,h2⟩ | ⟨g,o,tl,c,pre,h1,_⟩
 ·subst h1;exact ⟨none,0,h2⟩
 ·exact ⟨_,c,h1⟩
theorem US.so {w:World} {B:Nat} {v:Value} {us:List UV} (h:US w B v us):USo w B v us:=by
 rcases h with h | ⟨g,tl,c,h1,h2,h3⟩
 ·exact .inl h
 ·exact .inr ⟨g,0,tl,c,[],h1,by simp,by simpa using h2,h3⟩
theorem UH.rowO {w:World} {b o:Nat} {pre us:List UV} {tl:List Value} (h:UH w b (pre++us) tl) (ho:o=pre.length*129) {i:Nat} {u:UV} (hk:us[i]?=some u):C4 w ⟨b,o+i*129,none⟩ 129=some (N9 u):=by
 have:=h.row (i:=pre.length+i) (u:=u) (by rw[List.getElem?_append_right (by omega),Nat.add_sub_cancel_left];exact hk);rwa [Nat.add_mul,←ho]at this
attribute [local go_sem ↓ high] El A4w Qw B9u
theorem B0y (dv : Value) (e : Nat) (L : List En) (N : Nat) (us : List UV) (v : Value) (w : World) (hD : DirIs w dv e L N) (hU : USo w w.heap.size v us) (he : e ≤ 1000000000) (hN : N + us.length ≤ 1000000000) (hLl : L.length + us.length ≤ 1000000000) (hks : ∀ x, (lookE L x).length + us.length ≤ 1000000) :
    Calls Tryz.prog 8 #[dv, v] w fun x w' => ∃ dv', x = .returned dv' ∧ DirIs w' dv' (e + 1) (applyE us L) (N + us.length) ∧ Below w.heap.size w w' := by
  obtain ⟨ap, mv, m, t, rfl, hm, hK, cL, okt, hp, bR⟩ := hD
  obtain ⟨A, c, rfl⟩ := hU.form
  obtain ⟨n, hn⟩ := D9 (us.length)
  rw [← hn] at hN hLl hks hU ⊢
  have HN := Lib.hid hn
  have HU := Lib.hid hU
  clear hn hU
  obtain ⟨w1, cP⟩ := D9 ((w.alloc (Obj.cells #[.int .i64 ((e : Int) + 1), .pointer ap, .int .i64 0, mv] 34)).alloc (Obj.cells #[.int .i64 0, .pointer none, .int .i64 0, .map none] 34))
  have hL : w1 = Z0 w [(34, [.int .i64 ((e : Int) + 1), .pointer ap, .int .i64 0, mv]), (34, [.int .i64 0, .pointer none, .int .i64 0, .map none])] := cP
  have B1 := BL' hL
  have eH := KZ' hL rfl
  have eI := KL' 1 hL rfl
  have z1 := SL' 2 hL rfl
  clear hL
  have eJ := hm.up B1
  have eK := hK.up B1
  have bS := (bR.below B1).more B1.size
  have eP : IntKind.i64.wrap ((e : Int) + 1) = (e : Int) + 1 := IntWalk.i64_in _ (by omega)
  go_enter Tryz.func8, Tryz.ntmps8
  go_wp2_with fail
  rw [← cP]
  clear cP hm
  refine (B1g mv m N w1 eJ).mono ?_
  rintro x w2 ⟨eL, b2⟩
  have B2 := X4 B1 b2
  have bP := eH.bl b2
  have cM := eI.bl b2
  have eM := eK.up b2
  have bT := (bS.below b2).more b2.size
  have z2 : w.heap.size + 2 ≤ w2.heap.size := by have := b2.size; omega
  have z3 : w.heap.size + 2 ≤ w1.heap.size := by omega
  clear z1
  obtain ⟨b, hb⟩ := D9 (w1.heap.size)
  rw [← hb] at eL z3
  clear hb
  clear eH eI eK bS eJ
  have d3 : w2.cell? ⟨w.heap.size, 3, none⟩ = some mv := bP.at_ rfl
  have f3 := bP.frozen 3
  rcases eL with ⟨rfl, rfl, hnone⟩ | ⟨n0, cN, rfl, hM2⟩
  case inl =>
    obtain rfl : m = fun _ => none := funext hnone
    have hq := fun w => run_eql_map_nil_sl (P := Tryz.prog) w 32 _ _ none Tryz.underlying32
    go_wp2_with fail
    go_wp2_with fail
    obtain ⟨wa, bQ⟩ := D9 (w2.setCell ⟨w.heap.size, 3, none⟩ (.map none))
    rw [← bQ]
    have cO : Bk wa w.heap.size 34 [.int .i64 ((e : Int) + 1), .pointer ap, .int .i64 0, .map none] := by rw [bQ]; exact bP.set_ 3 _
    have eN : Bk wa (w.heap.size + 1) 34 [.int .i64 0, .pointer none, .int .i64 0, .map none] := by rw [bQ]; exact cM.far (by simp) _
    have Ba : Below w.heap.size w wa := by rw [bQ]; exact B2.setCell (Nat.le_refl _) _
    have za : w.heap.size + 2 ≤ wa.heap.size := by rw [bQ]; simpa using z2
    have dA := (cO.alloc (.map #[] 0)).at_ (i := 3) (u := .map none) rfl
    have fA := (cO.alloc (.map #[] 0)).frozen 3
    have eO := @run_makeMap Tryz.prog
    clear bQ bP cM B2 d3 f3 hq eM bT z2 b2
    simp only [eO, Result.andThen_ok]
    obtain ⟨w3, aI⟩ := D9 ((wa.alloc (.map #[] 0)).setCell ⟨w.heap.size, 3, none⟩ (.map (some wa.heap.size)))
    have bU : Bk w3 w.heap.size 34 [.int .i64 ((e : Int) + 1), .pointer ap, .int .i64 0, .map (some wa.heap.size)] := by rw [aI]; exact (cO.alloc _).set_ 3 _
    have bX : Bk w3 (w.heap.size + 1) 34 [.int .i64 0, .pointer none, .int .i64 0, .map none] := by rw [aI]; exact (eN.alloc _).far (by simp) _
    have B3 : Below w.heap.size w w3 := by rw [aI]; exact (Ba.alloc (by omega) _).setCell (Nat.le_refl _) _
    obtain ⟨n0, cN⟩ : ∃ n0 : Nat, n0 = 0 := ⟨_, rfl⟩
    have bY : MapV w3 wa.heap.size n0 (fun _ => none) := by rw [aI, cN]; exact (MapV.made wa).setCell (by simp; omega) _
    have z4 : w.heap.size + 2 ≤ w3.heap.size := by rw [aI]; simp; omega
    have A0 : ApI w w3 ((e : Int) + 1) wa.heap.size N L us 0 ap (fun _ => none) t L n0 := ⟨rfl, by omega, bU, bX, bY, fun k => KSx.of (hK k) B3, cL, okt, hp, (bR.below B3).more B3.size, Nat.le_refl _, fun x => Nat.le_refl _, B3, z4, za⟩
    clear cO eN bU bX B3 bY
    go_wp2_with fail
    rw [← aI]
    clear dA fA aI eO Ba
    obtain ⟨m0, bZ⟩ : ∃ m0 : List UInt8 → Option Value, m0 = fun _ => none := ⟨_, rfl⟩
    rw [← bZ] at A0
    clear bZ cN hnone
    generalize wa.heap.size = b at *
    obtain ⟨tp, cA⟩ : ∃ tp, ApI w w3 ((e : Int) + 1) b N L us 0 ap m0 tp L n0 := ⟨t, A0⟩
    clear A0 okt hp cL hK bR B1
    go_loopw [24] (fun x wr => ∃ (i : Nat) (ap : Option Addr) (m : List UInt8 → Option Value) (t : Tr) (L' : List En) (n' : Nat), i ≤ n ∧ x = .int .i64 (i : Int) ∧ ApI w wr ((e : Int) + 1) b N L us i ap m t L' n') (fun x _ => n - (intOf x).toNat)
    case atStart => exact ⟨0, ap, _, tp, L, n0, by omega, rfl, cA⟩
    case round =>
      clear cA
      obtain ⟨i, ap, m, t, L', n', hi, rfl, hA⟩ := hrel
      by_cases hlt : i < n
      · have hd : decide ((i : Int) < (n : Int)) = true := decide_eq_true (by omega)
        have eQ := decide_eq_true hlt
        have bB : i < us.length := by rw [← HN.out]; exact hlt
        obtain ⟨u, hu⟩ : ∃ u, us[i]? = some u := ⟨_, List.getElem?_eq_getElem bB⟩
        obtain ⟨g, o, rfl, ⟨aN, tl, aO, bE⟩, hg⟩ : ∃ g o, A = some ⟨g, o, none⟩ ∧ (∃ aN tl, o = aN.length * 129 ∧ UH w g (aN ++ us) tl) ∧ g < w.heap.size := by
          rcases HU.out with ⟨h1, _⟩ | ⟨g, o, tl, c', aN, h1, h0, h2, h3⟩
          · rw [h1] at bB; simp at bB
          · injection h1 with h1; exact ⟨g, o, h1, ⟨aN, tl, h0, h2⟩, h3⟩
        have aD : u.Ok := bE.1 u (List.mem_append_right _ (List.mem_of_getElem? hu))
        have cQ := UH.rowO (bE.below hA.below hg) aO hu
        have aF := aD.id
        have cB := aD.len
        have Hu := Lib.hid hu
        clear bE bB hu aO
        obtain ⟨w4, bC⟩ := D9 (C2 (wr.alloc (Obj.cells (N9 (Gk 129)).toArray 69)) ⟨wr.heap.size, 0, none⟩ (N9 u))
        have aG := (Bk.new wr 69 (N9 (Gk 129))).canvc (n := 129) (Ci _).len
        have ku : Bk w4 wr.heap.size 69 (N9 u) := by rw [bC]; exact (Bk.new wr 69 (N9 (Gk 129))).putvc (n := 129) (Ci _).len cB
        have aP := hA.up (w' := w4) (by rw [bC]; exact C0 (U7 _ _) (Nat.le_refl _) _)
        clear hA
        go_wp2_with fail
        rw [← bC]
        clear bC aG cQ
        generalize wr.heap.size = gu at *
        have bF := (aP.ks u.id).ks aP.below.size
        obtain ⟨kv, bG⟩ := D9 ((m u.id).getD (.slice none 0 0))
        have cR := Lib.hid bG
        rw [← bG] at bF
        clear bG
        have S0 := Nq w4
        have aQ := aP.up S0
        have aR := Lib.hid aQ
        have bH := ku.bl S0
        have cS := Lib.hid (bF.up S0)
        clear bF
        refine Ij (fun W => MapV W b n' m ∧ Bk W w.heap.size 34 [.int .i64 ((e : Int) + 1), .pointer ap, .int .i64 0, .map (some b)] ∧ Bk W gu 69 (N9 u)) ?_
        refine Cn (A := ?eS) [0, 1, 2, 3, 4, 5] ⟨aQ.mv, aQ.kd, bH⟩ (fun W hW => ?cT) ?eT
        case cT =>
          have f1 : W.cell? ⟨w.heap.size, 3, none⟩ = some (.map (some b)) := hW.2.1.at_ (i := 3) rfl
          have f2 := UV.loadid hW.2.2 aD
          have f3 := hW.1.look aF
          rw [← cR.out] at f3
          have f4 := Bk.rowvc (n := 129) hW.2.2 cB
          exact Fa
        refine Q6 6 fun Q' hQ' => ?_
        dsimp only [C6]
        have aS := Lib.hid hQ'
        clear hQ'
        go_wp2_with fail
        refine (Wk kv (lookE L' u.id) u aD w4.drew cS.out (by have := aR.out.lks u.id; have := hks u.id; omega)).mono ?_
        rintro x w6 ⟨r, rfl, aJ, b6⟩
        have aB := aQ.up b6
        have aT := bH.bl b6
        obtain ⟨Ar, cr, rfl, cU, cV⟩ := aJ.form
        have aK := Lib.hid aJ
        clear aJ
        go_wp2_with fail
        refine aS.out _ _ ⟨aB.mv, aB.kd, aT⟩ ?_
        clear aS
        refine Cn (A := ?eU) [7, 8, 9, 10, 11] ⟨aB.mv, aB.kd, aT⟩ (fun W hW => ?cW) ?eV
        case cW =>
          simp only [List.append_eq, Nw, pick, Se]
          repeat (go_big_quiet_step (fail))
          refine wpQuiet_nil ?_
          rfl
        refine Gn ?_
        clear aQ aR bH b6 S0
        cases hnb : Df (lookE L' u.id) u with
        | false =>
          have cX : (Bp (lookE L' u.id) u == 0) = false := by
            cases hz : (Bp (lookE L' u.id) u == 0) with
            | false => rfl
            | true => rw [beq_iff_eq, Dn] at hz; rw [hz] at hnb; cases hnb
          have cY := Lib.hid (aB.skip Hu.out hnb)
          go_wp2_with fail
          go_roundw
          case rel => exact ⟨i + 1, ap, m, t, L', n', by omega, by go_num, cY.out⟩
          case measure => simp [intOf]; omega
        | true =>
          have cX : (Bp (lookE L' u.id) u == 0) = true := by rw [beq_iff_eq, Dn]; exact hnb
          have bI := Rh hnb
          have aU : (Dd (lookE L' u.id) u).length ≤ 1000000 := by
            rw [bI]; simp
            have := aB.lks u.id; have := hks u.id; omega
          obtain ⟨D, hD, aV⟩ := aB.mv.put aF (.slice Ar (Dd (lookE L' u.id) u).length cr)
          have f1 : w6.cell? ⟨w.heap.size, 3, none⟩ = some (.map (some b)) := aB.kd.at_ (i := 3) rfl
          have f2 := UV.loadid aT aD
          have cZ : n' < maxLen := by have := aB.hn; unfold maxLen; omega
          have HE := Lib.hid bI
          have HL := Lib.hid aU
          clear bI aU
          generalize hgl : (Dd (lookE L' u.id) u).length = nk at *
          go_wp2_with (first | (at_mapUpdate; refine wpList_mapUpdate_own _ rfl _ _ _ 32 rfl 40 49 Cd Tryz.underlying32 RV b n' D rfl hD cZ _ _ (Wi u.id) rfl rfl (Fx aF) (.held (.slice Ar nk cr)) [] rfl ?_; intro w7 aH aA) | fail)
          dsimp only [Act.put]
          have aC := aB.mv.row
          have cC := aV w7 aH
          have z6 : w.heap.size + 2 ≤ w4.drew.heap.size := aP.z
          have cD : KSx w6 w.heap.size (.slice Ar nk cr) (lookE L' u.id ++ [u.key]) := by
            have h1 := aK.out.hs
            rw [HE.out] at h1
            exact .inr ⟨.inr (h1.less z6), by simp, Be aK.out.2⟩
          have bJ := cD.own aA aC
          have aW := KeysX.set (fun k => (aB.ks k).own aA aC) bJ (fun x => Co aB.ok aF aD.key x)
          have bK := Bv aB.kd aA aC
          have cE := Bv aB.kr aA aC
          have bD := Bv aT aA aC
          have aX := (B0i aA aC aB.tr).more aA.size
          have dC := aB.zb
          have B7 := aB.below.grown aA aB.below.size (fun k hk => by cases hk; omega)
          have cF : Hs w7 0 w7.heap.size (.slice Ar nk cr) (lookE L' u.id ++ [u.key]) := by
            rcases bJ.ks B7.size with ⟨h, _⟩ | ⟨h, _⟩
            · injection h with h1 h2 h3
              have := aK.out.form
              obtain ⟨_, _, e, _⟩ := this
              have cG := congrArg List.length HE.out
              rw [hgl, h2] at cG
              simp at cG
            · exact h
          have z7 := Nat.le_trans aB.z aA.size
          have dD : ApI w w7 ((e : Int) + 1) b N L us i ap m t L' n' → True := fun _ => trivial
          have dF : Hid ((lookE L' u.id ++ [u.key]).length ≤ 1000000) := Lib.hid (by
            have h1 := hgl
            rw [HE.out] at h1
            rw [h1]; exact HL.out)
          have bL : t.len ≤ 1000000000000 := by rw [Tr.len_pairs, aB.prs, X1]; have := aB.len; omega
          obtain ⟨dG, dI⟩ := Xv (key := u.key) aB.okt aB.prs aF
          have eW := B4y (key := u.key) aB.okt aB.prs aF
          have dJ := aB.ok.with aF aD.key
          have dK : Hid (Cj u.id u.key L' = applyE (us.take (i + 1)) L) := Lib.hid (by
            have e1 : us.take (i + 1) = us.take i ++ [u] := by rw [List.take_add_one, Hu.out]; rfl
            unfold applyE
            rw [e1, List.foldl_append]
            show _ = Cq (applyE (us.take i) L) u
            rw [← aB.eq]
            unfold Cq
            rw [hnb]; rfl)
          have dL : Hid (∀ x, (lookE (Cj u.id u.key L') x).length ≤ (lookE L x).length + (i + 1)) := Lib.hid (fun x => by
            rw [Co aB.ok aF aD.key x]
            by_cases hx : x = u.id
            · rw [if_pos hx, hx]; have := aB.lks u.id; simp; omega
            · rw [if_neg hx]; have := aB.lks x; omega)
          have bM := aB.okt
          have eX := aB.hn
          have eY := aB.len
          have eZ := aD.key
          clear aV aH aA aC aB aT aP ku cD bJ hD f1 f2 dD
          have S7 := Nq w7
          have dM := Lib.hid ((cF.below S7).more S7.size)
          clear cF
          refine Ij (fun W => Bk W gu 69 (N9 u)) ?_
          refine Cn (A := ?fB) [0, 2, 3, 4] bD.drew (fun W hW => ?dO) ?fC
          case dO =>
            have f2 := UV.loadid hW aD
            exact Fa
          refine Cf [zv 1 46 (.agg #[.pointer ap, .int .i64 0]), zv 5 50 (A8 (W8 (lookE L' u.id ++ [u.key])))] (by kernel_rfl) (fun W hW => bD.drew.bl hW) ?dQ ?dS ?dT
          case dQ => exact Mp ⟨Jp _ _ _, Mp ⟨Jp _ _ _, fun _ h => by cases h⟩⟩
          case dS =>
            refine Mp ⟨?fD, Mp ⟨?fE, fun _ h => by cases h⟩⟩
            case fD =>
              intro o ho us W hW hp Q' hQ'
              obtain rfl := Option.some.inj ho
              clear hp ho
              have f1 : C4 W ⟨w.heap.size, 1, none⟩ 2 = some [.pointer ap, .int .i64 0] := (bK.drew.bl hW).row (o := 1) (n := 2) (by simp)
              rw [D8] at hQ' ⊢
              dsimp only [C6, O6, List.foldl, zv] at hQ' ⊢
              simp only [Nv]
              go_wp2_with fail
              exact FE' (hQ' _ _ (Below.refl _ _) rfl nofun)
            case fE =>
              intro o ho us W hW hp Q' hQ'
              obtain rfl := Option.some.inj ho
              clear hp ho
              rw [D8] at hQ' ⊢
              dsimp only [C6, O6, List.foldl, zv] at hQ' ⊢
              simp only [Nv]
              have dU := Lib.hid ((dM.out.below hW).more hW.size)
              go_wp2_with fail
              refine (Mw _ (lookE L' u.id ++ [u.key]) W dU.out dF.out).mono ?_
              rintro x w8 ⟨rfl, b8⟩
              go_wp2_with fail
              exact FE' (hQ' _ _ b8 rfl nofun)
          case dT =>
          intro vs w8 b8 hg bN dW
          have cH : vs 1 = .agg #[.pointer ap, .int .i64 0] := hg _ (Yi 0 rfl)
          have cI : vs 5 = A8 (W8 (lookE L' u.id ++ [u.key])) := hg _ (Yi 1 rfl)
          rw [D8]
          dsimp only [O6, List.foldl, zv]
          simp only [Nv]
          rw [cH, cI]
          clear hg bN dW cH cI
          have cJ := bK.drew.bl b8
          have cK := bD.drew.bl b8
          refine Q6 6 fun Q' hQ' => ?_
          dsimp only [C6]
          have aS := Lib.hid hQ'
          clear hQ'
          go_wp2_with fail
          refine (B4z u.id (W8 (lookE L' u.id ++ [u.key])) aF (U2 _) 0 t P0 (.pointer ap) w8 (by omega) (fun i hi => by omega) bM bL (((aX.below S7).more S7.size).below b8 |>.more b8.size)).mono ?_
          rintro x w9 ⟨q2, rfl, aL, b9⟩
          obtain ⟨aY, rfl⟩ := aL.form
          have aZ := cJ.bl b9
          have bA := cK.bl b9
          have aM := C3 (C3 S7 b8 S7.size) b9 (Nat.le_trans S7.size b8.size)
          have aG : F9 w9 ⟨w.heap.size, 1, none⟩ 2 = true := aZ.can (by simp)
          go_wp2_with fail
          refine aS.out _ _ bA ?_
          clear aS
          refine Q6 7 fun Q' hQ' => ?_
          dsimp only [C6]
          go_wp2_with fail
          refine hQ' _ _ bA ?_
          clear hQ'
          refine Q6 8 fun Q' hQ' => ?_
          dsimp only [C6]
          go_wp2_with fail
          obtain ⟨wf, aE⟩ := D9 (C2 w9 ⟨w.heap.size, 1, none⟩ [.pointer aY, .int .i64 0])
          rw [← aE]
          have dX : Bk wf w.heap.size 34 [.int .i64 ((e : Int) + 1), .pointer aY, .int .i64 0, .map (some b)] := by rw [aE]; exact (aZ.set_ 1 _).set_ 2 _
          have dY : Bk wf (w.heap.size + 1) 34 [.int .i64 0, .pointer none, .int .i64 0, .map none] := by rw [aE]; exact (cE.bl aM).putFar (by simp) _
          have dZ : Bk wf gu 69 (N9 u) := by
            rw [aE]
            exact bA.putFar (fun hc => by
              have h1 := bA
              rw [hc] at h1
              exact Bk.apart h1 aZ (by decide) rfl) _
          have zf : w.heap.size + 2 ≤ wf.heap.size := by rw [aE]; have := aM.size; simp; omega
          have eA : ApI w wf ((e : Int) + 1) b N L us (i + 1) aY (Sd m u.id (.slice Ar nk cr)) (Uq t u.id (W8 (lookE L' u.id ++ [u.key]))) (Cj u.id u.key L') (n' + 1) :=
            { eq := dK.out, hn := by omega, kd := dX, kr := dY,
              mv := by rw [aE]; exact (cC.below aM (Nat.le_refl _)).kept (row := some w.heap.size) (S4 w9 _ 1 _) (by simp; omega),
              ks := by rw [aE]; exact fun k => ((aW k).up aM B7.size).put (Nat.le_refl _) (by omega),
              ok := dJ, okt := dG, prs := dI,
              tr := by rw [aE]; unfold Uq; have := At.put_ aZ (by decide) 1 [.pointer aY, .int .i64 0] aL; simpa using this,
              len := by omega, lks := dL.out,
              below := by rw [aE]; exact C0 (C3 B7 aM B7.size) (Nat.le_refl _) _,
              z := zf, zb := dC }
          refine hQ' _ _ dZ ?_
          clear hQ' aZ bA aG aL b9 b8 aM cJ cK aW cC bK cE bD aX aE
          refine Gn ?_
          go_wp2_with fail
          go_roundw
          case rel => exact ⟨i + 1, aY, _, _, _, n' + 1, by omega, by go_num, eA⟩
          case measure => simp [intOf]; omega
      · obtain rfl : i = n := by omega
        have hd : decide ((i : Int) < (i : Int)) = false := decide_eq_false (by omega)
        have c0 := hA.kd.row (o := 0) (n := 4) (by simp)
        have aG : F9 wr ⟨w.heap.size + 1, 0, none⟩ 4 = true := hA.kr.can (by simp)
        go_wp2_with fail
        have Bf := C0 (a := ⟨w.heap.size + 1, 0, none⟩) hA.below (Nat.le_succ _) [.int .i64 ((e : Int) + 1), .pointer ap, .int .i64 0, .map (some b)]
        have bO : applyE us L = L' := by rw [hA.eq, List.take_of_length_le (by rw [← HN.out]; exact Nat.le_refl _)]
        refine bodyPost_ret (C7 rfl _ _ _ _ _ _ rfl (hA.kr.puts (vs := [.int .i64 ((e : Int) + 1), .pointer ap, .int .i64 0, .map (some b)]) (by simp)) Ub rfl (by simp [Vk])) rfl
          ⟨_, rfl, ⟨ap, .map (some b), m, t, rfl, .inr ⟨b, n', hA.hn, rfl, ?_⟩, ?_, ?_, hA.okt, ?_, ?_⟩, Bf⟩
        · exact hA.mv.kept (row := some (w.heap.size + 1)) (S4 wr _ 0 _) (by have := hA.zb; simp; omega)
        · rw [bO]
          exact fun k => ((hA.ks k).put (by omega) (by omega)).ks (by have := hA.below.size; simpa using this)
        · rw [bO]; exact hA.ok
        · rw [bO]; exact hA.prs
        · have := At.put_ hA.kr (by decide) 0 [.int .i64 ((e : Int) + 1), .pointer ap, .int .i64 0, .map (some b)] hA.tr
          simpa using this
  case inr =>
    have hq := fun w => run_eql_map_nil_sl (P := Tryz.prog) w 32 _ _ (some b) Tryz.underlying32
    obtain ⟨w3, aI⟩ := D9 (w2.setCell ⟨w.heap.size, 3, none⟩ (.map (some b)))
    have bU : Bk w3 w.heap.size 34 [.int .i64 ((e : Int) + 1), .pointer ap, .int .i64 0, .map (some b)] := by rw [aI]; exact bP.set_ 3 _
    have bX : Bk w3 (w.heap.size + 1) 34 [.int .i64 0, .pointer none, .int .i64 0, .map none] := by rw [aI]; exact cM.far (by simp) _
    have B3 : Below w.heap.size w w3 := by rw [aI]; exact B2.setCell (Nat.le_refl _) _
    have bY : MapV w3 b n0 m := by rw [aI]; exact hM2.setCell (by simp; omega) _
    have z4 : w.heap.size + 2 ≤ w3.heap.size := by rw [aI]; simpa using z2
    have A0 : ApI w w3 ((e : Int) + 1) b N L us 0 ap m t L n0 := ⟨rfl, cN, bU, bX, bY, fun k => KSx.of (hK k) B3, cL, okt, hp, (bR.below B3).more B3.size, Nat.le_refl _, fun x => Nat.le_refl _, B3, z4, z3⟩
    clear bU bX B3 bY
    go_wp2_with fail
    rw [← aI]
    clear aI hq d3 f3 hM2 bP cM B2 eM bT z2 b2
    obtain ⟨m0, bZ⟩ : ∃ m0 : List UInt8 → Option Value, m0 = m := ⟨_, rfl⟩
    rw [← bZ] at A0
    clear bZ
    obtain ⟨tp, cA⟩ : ∃ tp, ApI w w3 ((e : Int) + 1) b N L us 0 ap m0 tp L n0 := ⟨t, A0⟩
    clear A0 okt hp cL hK bR B1
    go_loopw [24] (fun x wr => ∃ (i : Nat) (ap : Option Addr) (m : List UInt8 → Option Value) (t : Tr) (L' : List En) (n' : Nat), i ≤ n ∧ x = .int .i64 (i : Int) ∧ ApI w wr ((e : Int) + 1) b N L us i ap m t L' n') (fun x _ => n - (intOf x).toNat)
    case atStart => exact ⟨0, ap, _, tp, L, n0, by omega, rfl, cA⟩
    case round =>
      clear cA
      obtain ⟨i, ap, m, t, L', n', hi, rfl, hA⟩ := hrel
      by_cases hlt : i < n
      · have hd : decide ((i : Int) < (n : Int)) = true := decide_eq_true (by omega)
        have eQ := decide_eq_true hlt
        have bB : i < us.length := by rw [← HN.out]; exact hlt
        obtain ⟨u, hu⟩ : ∃ u, us[i]? = some u := ⟨_, List.getElem?_eq_getElem bB⟩
        obtain ⟨g, o, rfl, ⟨aN, tl, aO, bE⟩, hg⟩ : ∃ g o, A = some ⟨g, o, none⟩ ∧ (∃ aN tl, o = aN.length * 129 ∧ UH w g (aN ++ us) tl) ∧ g < w.heap.size := by
          rcases HU.out with ⟨h1, _⟩ | ⟨g, o, tl, c', aN, h1, h0, h2, h3⟩
          · rw [h1] at bB; simp at bB
          · injection h1 with h1; exact ⟨g, o, h1, ⟨aN, tl, h0, h2⟩, h3⟩
        have aD : u.Ok := bE.1 u (List.mem_append_right _ (List.mem_of_getElem? hu))
        have cQ := UH.rowO (bE.below hA.below hg) aO hu
        have aF := aD.id
        have cB := aD.len
        have Hu := Lib.hid hu
        clear bE bB hu aO
        obtain ⟨w4, bC⟩ := D9 (C2 (wr.alloc (Obj.cells (N9 (Gk 129)).toArray 69)) ⟨wr.heap.size, 0, none⟩ (N9 u))
        have aG := (Bk.new wr 69 (N9 (Gk 129))).canvc (n := 129) (Ci _).len
        have ku : Bk w4 wr.heap.size 69 (N9 u) := by rw [bC]; exact (Bk.new wr 69 (N9 (Gk 129))).putvc (n := 129) (Ci _).len cB
        have aP := hA.up (w' := w4) (by rw [bC]; exact C0 (U7 _ _) (Nat.le_refl _) _)
        clear hA
        go_wp2_with fail
        rw [← bC]
        clear bC aG cQ
        generalize wr.heap.size = gu at *
        have bF := (aP.ks u.id).ks aP.below.size
        obtain ⟨kv, bG⟩ := D9 ((m u.id).getD (.slice none 0 0))
        have cR := Lib.hid bG
        rw [← bG] at bF
        clear bG
        have S0 := Nq w4
        have aQ := aP.up S0
        have aR := Lib.hid aQ
        have bH := ku.bl S0
        have cS := Lib.hid (bF.up S0)
        clear bF
        refine Ij (fun W => MapV W b n' m ∧ Bk W w.heap.size 34 [.int .i64 ((e : Int) + 1), .pointer ap, .int .i64 0, .map (some b)] ∧ Bk W gu 69 (N9 u)) ?_
        refine Cn (A := ?fF) [0, 1, 2, 3, 4, 5] ⟨aQ.mv, aQ.kd, bH⟩ (fun W hW => ?eB) ?fG
        case eB =>
          have f1 : W.cell? ⟨w.heap.size, 3, none⟩ = some (.map (some b)) := hW.2.1.at_ (i := 3) rfl
          have f2 := UV.loadid hW.2.2 aD
          have f3 := hW.1.look aF
          rw [← cR.out] at f3
          have f4 := Bk.rowvc (n := 129) hW.2.2 cB
          exact Fa
        refine Q6 6 fun Q' hQ' => ?_
        dsimp only [C6]
        have aS := Lib.hid hQ'
        clear hQ'
        go_wp2_with fail
        refine (Wk kv (lookE L' u.id) u aD w4.drew cS.out (by have := aR.out.lks u.id; have := hks u.id; omega)).mono ?_
        rintro x w6 ⟨r, rfl, aJ, b6⟩
        have aB := aQ.up b6
        have aT := bH.bl b6
        obtain ⟨Ar, cr, rfl, cU, cV⟩ := aJ.form
        have aK := Lib.hid aJ
        clear aJ
        go_wp2_with fail
        refine aS.out _ _ ⟨aB.mv, aB.kd, aT⟩ ?_
        clear aS
        refine Cn (A := ?fH) [7, 8, 9, 10, 11] ⟨aB.mv, aB.kd, aT⟩ (fun W hW => ?eC) ?fI
        case eC =>
          simp only [List.append_eq, Nw, pick, Se]
          repeat (go_big_quiet_step (fail))
          refine wpQuiet_nil ?_
          rfl
        refine Gn ?_
        clear aQ aR bH b6 S0
        cases hnb : Df (lookE L' u.id) u with
        | false =>
          have cX : (Bp (lookE L' u.id) u == 0) = false := by
            cases hz : (Bp (lookE L' u.id) u == 0) with
            | false => rfl
            | true => rw [beq_iff_eq, Dn] at hz; rw [hz] at hnb; cases hnb
          have cY := Lib.hid (aB.skip Hu.out hnb)
          go_wp2_with fail
          go_roundw
          case rel => exact ⟨i + 1, ap, m, t, L', n', by omega, by go_num, cY.out⟩
          case measure => simp [intOf]; omega
        | true =>
          have cX : (Bp (lookE L' u.id) u == 0) = true := by rw [beq_iff_eq, Dn]; exact hnb
          have bI := Rh hnb
          have aU : (Dd (lookE L' u.id) u).length ≤ 1000000 := by
            rw [bI]; simp
            have := aB.lks u.id; have := hks u.id; omega
          obtain ⟨D, hD, aV⟩ := aB.mv.put aF (.slice Ar (Dd (lookE L' u.id) u).length cr)
          have f1 : w6.cell? ⟨w.heap.size, 3, none⟩ = some (.map (some b)) := aB.kd.at_ (i := 3) rfl
          have f2 := UV.loadid aT aD
          have cZ : n' < maxLen := by have := aB.hn; unfold maxLen; omega
          have HE := Lib.hid bI
          have HL := Lib.hid aU
          clear bI aU
          generalize hgl : (Dd (lookE L' u.id) u).length = nk at *
          go_wp2_with (first | (at_mapUpdate; refine wpList_mapUpdate_own _ rfl _ _ _ 32 rfl 40 49 Cd Tryz.underlying32 RV b n' D rfl hD cZ _ _ (Wi u.id) rfl rfl (Fx aF) (.held (.slice Ar nk cr)) [] rfl ?_; intro w7 aH aA) | fail)
          dsimp only [Act.put]
          have aC := aB.mv.row
          have cC := aV w7 aH
          have z6 : w.heap.size + 2 ≤ w4.drew.heap.size := aP.z
          have cD : KSx w6 w.heap.size (.slice Ar nk cr) (lookE L' u.id ++ [u.key]) := by
            have h1 := aK.out.hs
            rw [HE.out] at h1
            exact .inr ⟨.inr (h1.less z6), by simp, Be aK.out.2⟩
          have bJ := cD.own aA aC
          have aW := KeysX.set (fun k => (aB.ks k).own aA aC) bJ (fun x => Co aB.ok aF aD.key x)
          have bK := Bv aB.kd aA aC
          have cE := Bv aB.kr aA aC
          have bD := Bv aT aA aC
          have aX := (B0i aA aC aB.tr).more aA.size
          have dC := aB.zb
          have B7 := aB.below.grown aA aB.below.size (fun k hk => by cases hk; omega)
          have cF : Hs w7 0 w7.heap.size (.slice Ar nk cr) (lookE L' u.id ++ [u.key]) := by
            rcases bJ.ks B7.size with ⟨h, _⟩ | ⟨h, _⟩
            · injection h with h1 h2 h3
              have := aK.out.form
              obtain ⟨_, _, e, _⟩ := this
              have cG := congrArg List.length HE.out
              rw [hgl, h2] at cG
              simp at cG
            · exact h
          have z7 := Nat.le_trans aB.z aA.size
          have dD : ApI w w7 ((e : Int) + 1) b N L us i ap m t L' n' → True := fun _ => trivial
          have dF : Hid ((lookE L' u.id ++ [u.key]).length ≤ 1000000) := Lib.hid (by
            have h1 := hgl
            rw [HE.out] at h1
            rw [h1]; exact HL.out)
          have bL : t.len ≤ 1000000000000 := by rw [Tr.len_pairs, aB.prs, X1]; have := aB.len; omega
          obtain ⟨dG, dI⟩ := Xv (key := u.key) aB.okt aB.prs aF
          have eW := B4y (key := u.key) aB.okt aB.prs aF
          have dJ := aB.ok.with aF aD.key
          have dK : Hid (Cj u.id u.key L' = applyE (us.take (i + 1)) L) := Lib.hid (by
            have e1 : us.take (i + 1) = us.take i ++ [u] := by rw [List.take_add_one, Hu.out]; rfl
            unfold applyE
            rw [e1, List.foldl_append]
            show _ = Cq (applyE (us.take i) L) u
            rw [← aB.eq]
            unfold Cq
            rw [hnb]; rfl)
          have dL : Hid (∀ x, (lookE (Cj u.id u.key L') x).length ≤ (lookE L x).length + (i + 1)) := Lib.hid (fun x => by
            rw [Co aB.ok aF aD.key x]
            by_cases hx : x = u.id
            · rw [if_pos hx, hx]; have := aB.lks u.id; simp; omega
            · rw [if_neg hx]; have := aB.lks x; omega)
          have bM := aB.okt
          have eX := aB.hn
          have eY := aB.len
          have eZ := aD.key
          clear aV aH aA aC aB aT aP ku cD bJ hD f1 f2 dD
          have S7 := Nq w7
          have dM := Lib.hid ((cF.below S7).more S7.size)
          clear cF
          refine Ij (fun W => Bk W gu 69 (N9 u)) ?_
          refine Cn (A := ?fJ) [0, 2, 3, 4] bD.drew (fun W hW => ?eD) ?fK
          case eD =>
            have f2 := UV.loadid hW aD
            exact Fa
          refine Cf [zv 1 46 (.agg #[.pointer ap, .int .i64 0]), zv 5 50 (A8 (W8 (lookE L' u.id ++ [u.key])))] (by kernel_rfl) (fun W hW => bD.drew.bl hW) ?eE ?eF ?eG
          case eE => exact Mp ⟨Jp _ _ _, Mp ⟨Jp _ _ _, fun _ h => by cases h⟩⟩
          case eF =>
            refine Mp ⟨?fL, Mp ⟨?fM, fun _ h => by cases h⟩⟩
            case fL =>
              intro o ho us W hW hp Q' hQ'
              obtain rfl := Option.some.inj ho
              clear hp ho
              have f1 : C4 W ⟨w.heap.size, 1, none⟩ 2 = some [.pointer ap, .int .i64 0] := (bK.drew.bl hW).row (o := 1) (n := 2) (by simp)
              rw [D8] at hQ' ⊢
              dsimp only [C6, O6, List.foldl, zv] at hQ' ⊢
              simp only [Nv]
              go_wp2_with fail
              exact FE' (hQ' _ _ (Below.refl _ _) rfl nofun)
            case fM =>
              intro o ho us W hW hp Q' hQ'
              obtain rfl := Option.some.inj ho
              clear hp ho
              rw [D8] at hQ' ⊢
              dsimp only [C6, O6, List.foldl, zv] at hQ' ⊢
              simp only [Nv]
              have dU := Lib.hid ((dM.out.below hW).more hW.size)
              go_wp2_with fail
              refine (Mw _ (lookE L' u.id ++ [u.key]) W dU.out dF.out).mono ?_
              rintro x w8 ⟨rfl, b8⟩
              go_wp2_with fail
              exact FE' (hQ' _ _ b8 rfl nofun)
          case eG =>
          intro vs w8 b8 hg bN dW
          have cH : vs 1 = .agg #[.pointer ap, .int .i64 0] := hg _ (Yi 0 rfl)
          have cI : vs 5 = A8 (W8 (lookE L' u.id ++ [u.key])) := hg _ (Yi 1 rfl)
          rw [D8]
          dsimp only [O6, List.foldl, zv]
          simp only [Nv]
          rw [cH, cI]
          clear hg bN dW cH cI
          have cJ := bK.drew.bl b8
          have cK := bD.drew.bl b8
          refine Q6 6 fun Q' hQ' => ?_
          dsimp only [C6]
          have aS := Lib.hid hQ'
          clear hQ'
          go_wp2_with fail
          refine (B4z u.id (W8 (lookE L' u.id ++ [u.key])) aF (U2 _) 0 t P0 (.pointer ap) w8 (by omega) (fun i hi => by omega) bM bL (((aX.below S7).more S7.size).below b8 |>.more b8.size)).mono ?_
          rintro x w9 ⟨q2, rfl, aL, b9⟩
          obtain ⟨aY, rfl⟩ := aL.form
          have aZ := cJ.bl b9
          have bA := cK.bl b9
          have aM := C3 (C3 S7 b8 S7.size) b9 (Nat.le_trans S7.size b8.size)
          have aG : F9 w9 ⟨w.heap.size, 1, none⟩ 2 = true := aZ.can (by simp)
          go_wp2_with fail
          refine aS.out _ _ bA ?_
          clear aS
          refine Q6 7 fun Q' hQ' => ?_
          dsimp only [C6]
          go_wp2_with fail
          refine hQ' _ _ bA ?_
          clear hQ'
          refine Q6 8 fun Q' hQ' => ?_
          dsimp only [C6]
          go_wp2_with fail
          obtain ⟨wf, aE⟩ := D9 (C2 w9 ⟨w.heap.size, 1, none⟩ [.pointer aY, .int .i64 0])
          rw [← aE]
          have dX : Bk wf w.heap.size 34 [.int .i64 ((e : Int) + 1), .pointer aY, .int .i64 0, .map (some b)] := by rw [aE]; exact (aZ.set_ 1 _).set_ 2 _
          have dY : Bk wf (w.heap.size + 1) 34 [.int .i64 0, .pointer none, .int .i64 0, .map none] := by rw [aE]; exact (cE.bl aM).putFar (by simp) _
          have dZ : Bk wf gu 69 (N9 u) := by
            rw [aE]
            exact bA.putFar (fun hc => by
              have h1 := bA
              rw [hc] at h1
              exact Bk.apart h1 aZ (by decide) rfl) _
          have zf : w.heap.size + 2 ≤ wf.heap.size := by rw [aE]; have := aM.size; simp; omega
          have eA : ApI w wf ((e : Int) + 1) b N L us (i + 1) aY (Sd m u.id (.slice Ar nk cr)) (Uq t u.id (W8 (lookE L' u.id ++ [u.key]))) (Cj u.id u.key L') (n' + 1) :=
            { eq := dK.out, hn := by omega, kd := dX, kr := dY,
              mv := by rw [aE]; exact (cC.below aM (Nat.le_refl _)).kept (row := some w.heap.size) (S4 w9 _ 1 _) (by simp; omega),
              ks := by rw [aE]; exact fun k => ((aW k).up aM B7.size).put (Nat.le_refl _) (by omega),
              ok := dJ, okt := dG, prs := dI,
              tr := by rw [aE]; unfold Uq; have := At.put_ aZ (by decide) 1 [.pointer aY, .int .i64 0] aL; simpa using this,
              len := by omega, lks := dL.out,
              below := by rw [aE]; exact C0 (C3 B7 aM B7.size) (Nat.le_refl _) _,
              z := zf, zb := dC }
          refine hQ' _ _ dZ ?_
          clear hQ' aZ bA aG aL b9 b8 aM cJ cK aW cC bK cE bD aX aE
          refine Gn ?_
          go_wp2_with fail
          go_roundw
          case rel => exact ⟨i + 1, aY, _, _, _, n' + 1, by omega, by go_num, eA⟩
          case measure => simp [intOf]; omega
      · obtain rfl : i = n := by omega
        have hd : decide ((i : Int) < (i : Int)) = false := decide_eq_false (by omega)
        have c0 := hA.kd.row (o := 0) (n := 4) (by simp)
        have aG : F9 wr ⟨w.heap.size + 1, 0, none⟩ 4 = true := hA.kr.can (by simp)
        go_wp2_with fail
        have Bf := C0 (a := ⟨w.heap.size + 1, 0, none⟩) hA.below (Nat.le_succ _) [.int .i64 ((e : Int) + 1), .pointer ap, .int .i64 0, .map (some b)]
        have bO : applyE us L = L' := by rw [hA.eq, List.take_of_length_le (by rw [← HN.out]; exact Nat.le_refl _)]
        refine bodyPost_ret (C7 rfl _ _ _ _ _ _ rfl (hA.kr.puts (vs := [.int .i64 ((e : Int) + 1), .pointer ap, .int .i64 0, .map (some b)]) (by simp)) Ub rfl (by simp [Vk])) rfl
          ⟨_, rfl, ⟨ap, .map (some b), m, t, rfl, .inr ⟨b, n', hA.hn, rfl, ?_⟩, ?_, ?_, hA.okt, ?_, ?_⟩, Bf⟩
        · exact hA.mv.kept (row := some (w.heap.size + 1)) (S4 wr _ 0 _) (by have := hA.zb; simp; omega)
        · rw [bO]
          exact fun k => ((hA.ks k).put (by omega) (by omega)).ks (by have := hA.below.size; simpa using this)
        · rw [bO]; exact hA.ok
        · rw [bO]; exact hA.prs
        · have := At.put_ hA.kr (by decide) 0 [.int .i64 ((e : Int) + 1), .pointer ap, .int .i64 0, .map (some b)] hA.tr
          simpa using this
theorem Uf (dv:Value) (e:Nat) (L:List En) (N:Nat) (us:List UV) (v:Value) (w:World) (hD:DirIs w dv e L N) (hU:US w w.heap.size v us) (he:e≤1000000000) (hN:N+us.length≤1000000000) (hLl:L.length+us.length≤1000000000) (hks:∀x,(lookE L x).length+us.length≤1000000) :
 Calls Tryz.prog 8 #[dv,v] w fun x w'=>∃dv',x=.returned dv'∧DirIs w' dv' (e+1) (applyE us L) (N+us.length)∧Below w.heap.size w w':=
 B0y dv e L N us v w hD hU.so he hN hLl hks
end
def Ig (u:UV):List UInt8:=[u.id,J8 (Cx u.ver),u.key,u.sig].flatten
def hbL (us:List UV):List UInt8:=J8 (UInt64.ofNat us.length)++us.flatMap Ig
theorem B1x {u:UV} (h:u.Ok):(Ig u).length=136:=by simp[Ig,h.id,h.key,h.sig]
theorem Kn:∀ {us:List UV},(∀u∈us,u.Ok)→(us.flatMap Ig).length=us.length*136
 | [],_=>rfl
 | u::us,h=>by
  rw[List.flatMap_cons,List.length_append,B1x (h u (by simp)),Kn fun x hx=>h x (List.mem_cons_of_mem _ hx),List.length_cons];omega
theorem D3s {us:List UV} {i:Nat} {u:UV} (hu:us[i]?=some u) (l:List UInt8):[l++(us.take i).flatMap Ig,u.id,J8 (Cx u.ver),u.key,u.sig].flatten=l++(us.take (i+1)).flatMap Ig:=by
 rw[List.take_add_one,hu];simp[Ig]
theorem B6k {W:World} {g o n:Nat} {l:List UInt8} (h:C4 W ⟨g,o,none⟩ n=some (c8 l)) (hg:g<W.heap.size) (hl:l.length=n) (hn:n≤9223372036854775807):By W 0 W.heap.size (.slice (some ⟨g,o,none⟩) n n) l:=by
 subst hl;exact ⟨some ⟨g,o,none⟩,l.length,by simp,by simp,hn,.inr ⟨g,o,rfl,Nat.zero_le _,hg,fun j u hj=>(T5.1 h).2 j u hj⟩⟩
theorem B7g (v:Value) (us:List UV) (w:World) (hU:US w w.heap.size v us) (hn:us.length≤1000000) :
 Calls Tryz.prog 37 #[v] w fun x w'=>∃u,x=.returned u∧By w' 0 w'.heap.size u (hbL us)∧Below w.heap.size w w':=by
 obtain⟨A,c,rfl⟩:=hU.form;obtain⟨n,aH⟩:=D9 (us.length);have hw:IntKind.u64.wrap (us.length:Int)=E6 (UInt64.ofNat us.length):=by rw[Ep];unfold E6;simp
 have HL:Hid (hbL us=J8 (UInt64.ofNat n)++us.flatMap Ig):=Lib.hid (by rw[aH];rfl);have aF:∀u∈us,u.Ok:=by
  rcases hU with ⟨h1,_⟩ | ⟨g,tl,c',_,h2,_⟩
  ·subst h1;intro u hu;cases hu
  ·exact h2.1
 rw[←aH]at hU hn hw ⊢;have HN:=Lib.hid aH;have HU:=Lib.hid hU;clear hU aH;go_enter Tryz.func37,Tryz.ntmps37;go_wp2_with fail;refine (Cu (.slice none 0 0) [] (UInt64.ofNat n) w (.inl ⟨rfl,rfl⟩) (by simp)).mono ?_;rintro x w1 ⟨o1,rfl,O1,b1⟩;have aQ:By w1 0 w1.heap.size o1 (J8 (UInt64.ofNat n)++(us.take 0).flatMap Ig):=by simpa using O1.up
 clear O1 hw;go_wp2_with fail;go_loopw [3,12] (fun ov x wr=>∃(i:Nat),i≤n∧x=.int .i64 (i:Int)∧By wr 0 wr.heap.size ov (J8 (UInt64.ofNat n)++(us.take i).flatMap Ig)∧Below w.heap.size w wr) (fun _ x _=>n-(intOf x).toNat)
 case atStart=>exact ⟨0,by omega,rfl,aQ,b1⟩
 case round=>
  clear aQ;obtain⟨i,hi,rfl,aG,B⟩:=hrel;by_cases hlt:i<n
  ·have hd:decide ((i:Int)<(n:Int))=true:=decide_eq_true (by omega);have bD:=decide_eq_true hlt;have aI:i<us.length:=by rw[←HN.out];exact hlt
   obtain⟨u,hu⟩:∃u,us[i]?=some u:=⟨_,List.getElem?_eq_getElem aI⟩;obtain⟨g,tl,rfl,aR,hg⟩:∃g tl,A=some ⟨g,0,none⟩∧UH w g us tl∧g<w.heap.size:=by
    rcases HU.out with ⟨h1,_⟩ | ⟨g,tl,c',h1,h2,h3⟩
    ·rw[h1]at aI;simp at aI
    ·injection h1 with h1;exact ⟨g,tl,h1,h2,h3⟩
   have aA:u.Ok:=aF u (List.mem_of_getElem? hu);have aY:=(aR.below B hg).row hu;have aZ:=aA.len;have bA:=Wx u.ver;have aS:=Lib.hid (D3s hu (J8 (UInt64.ofNat n)));have aK:(J8 (UInt64.ofNat n)++(us.take i).flatMap Ig).length≤200000000:=by rw[List.length_append,Q9,Kn fun x hx=>aF x (List.mem_of_mem_take hx),List.length_take];omega
   clear aR aI hu;obtain⟨l,hl⟩:=D9 (J8 (UInt64.ofNat n)++(us.take i).flatMap Ig);rw[←hl]at aG aK aS;clear hl;obtain⟨W,hW⟩:=D9 (C2 (wr.alloc (Obj.cells (N9 (Gk 129)).toArray 69)) ⟨wr.heap.size,0,none⟩ (N9 u));have aL:=(Bk.new wr 69 (N9 (Gk 129))).canvc (n:=129) (Ci _).len;have ku:Bk W wr.heap.size 69 (N9 u):=by rw[hW];exact (Bk.new wr 69 (N9 (Gk 129))).putvc (n:=129) (Ci _).len aZ
   have bW:Below wr.heap.size wr W:=by rw[hW];exact C0 (U7 _ _) (Nat.le_refl _) _
   have aD:=aG.up bW;have BW:=X4 B bW;go_wp2_with fail;rw[←hW];clear hW aL aY bW aG B;generalize wr.heap.size=gu at *;obtain⟨Ao,co,rfl,-,-,-⟩:=aD.open_;have S0:=Nq W;have aT:=aD.up S0;have aM:=ku.bl S0;have B2:=X4 BW S0;clear aD ku BW S0;refine Ij (fun X=>Bk X gu 69 (N9 u)) ?_;refine Cn (A:=?bE) [0,1,2,3,4,5,7,8,9,10] aM (fun X hX=>?bB) ?bF;case bB=>have f1:=UV.loadver hX aA;exact Fa
   refine Q6 6 fun Q' hQ'=>?_;dsimp only[C6];have aC:=Lib.hid hQ';clear hQ';go_wp2_with fail;refine (Cu (.slice none 0 0) [] (Cx u.ver) W.drew (.inl ⟨rfl,rfl⟩) (by simp)).mono ?_;rintro x w3 ⟨nv,rfl,On,b3⟩;have aU:=aT.up b3;have aN:=aM.bl b3;have B3:=X4 B2 b3;have aO:By w3 0 w3.heap.size nv (J8 (Cx u.ver)):=by simpa using On.up
   obtain⟨An,cn,rfl,-,-,-⟩:=aO.open_;clear On aT aM B2 b3;go_wp2_with fail;refine aC.out _ _ aN ?_;clear aC;refine Q6 11 fun Q' hQ'=>?_;dsimp only[C6];have aC:=Lib.hid hQ';clear hQ';go_wp2_with fail;obtain⟨W4,aJ⟩:=D9 (w3.alloc (Obj.cells #[.slice Ao l.length co,.slice (some ⟨gu,0,none⟩) 32 32,.slice An 8 cn,.slice (some ⟨gu,33,none⟩) 32 32,.slice (some ⟨gu,65,none⟩) 64 64] 38));rw[←aJ];have k4:=KN' aJ;have b4:=BA' aJ;have aV:=aU.up b4;have aW:=aO.up b4;have aE:=aN.bl b4;have B4:=X4 B3 b4;have aP:=aE.lt;have p0:=B6k (UV.loadid aE aA) aP aA.id (by decide);have p1:=B6k (UV.loadkey aE aA) aP aA.key (by decide);have p2:=B6k (UV.loadsig aE aA) aP aA.sig (by decide);have aB:M6 W4 W4.heap.size (.slice (some ⟨w3.heap.size,0,none⟩) 5 5) [l,u.id,J8 (Cx u.ver),u.key,u.sig]:=Bk.parts k4 rfl (by simp[maxLen]) fun i x q hx hq=>by
    match i with
    | 0=>cases hx;cases hq;exact aV
    | 1=>cases hx;cases hq;exact p0
    | 2=>cases hx;cases hq;exact aW
    | 3=>cases hx;cases hq;exact p1
    | 4=>cases hx;cases hq;exact p2
    | i+5=>simp at hx
   have bC:=Lib.hid aB;clear aJ aU aO aN B3 b4 k4 aB p0 p1 p2 aV aW;refine aC.out _ _ aE ?_;clear aC;refine Q6 12 fun Q' hQ'=>?_;dsimp only[C6];have aC:=Lib.hid hQ';clear hQ';go_wp2_with fail;refine (A5g _ [l,u.id,J8 (Cx u.ver),u.key,u.sig] W4 bC.out (by simp[aA.id,aA.key,aA.sig];omega)).mono ?_;rintro x w5 ⟨jv,rfl,Oj,b5⟩;rw[aS.out]at Oj;have aX:=aE.bl b5;have B5:=X4 B4 b5;have Hj:=Lib.hid Oj.up;clear Oj;go_wp2_with fail;refine aC.out _ _ aX ?_;clear aC;refine Q6 13 fun Q' hQ'=>?_;dsimp only[C6];go_wp2_with fail;refine hQ' _ _ aX ?_;clear hQ';refine Gn ?_;go_wp2_with fail;go_roundw;case rel=>exact ⟨i+1,by omega,by go_num,Hj.out,B5⟩
   case measure=>simp[intOf];omega
  ·obtain rfl:i=n:=by omega
   have hd:decide ((i:Int)<(i:Int))=false:=decide_eq_false (by omega);go_wp2_with fail;go_ret;refine ⟨_,rfl,?_,B⟩;rw[HL.out];rw[List.take_of_length_le (by rw[←HN.out];exact Nat.le_refl _)]at aG;exact aG
end Go.Proofs.YtmllnpokbbabhaaGreat
