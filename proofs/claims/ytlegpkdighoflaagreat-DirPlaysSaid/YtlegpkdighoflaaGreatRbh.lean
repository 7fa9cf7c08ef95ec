/- A part of the proof of DirPlays. -/
import Derived.Test.YtlegpkdighoflaaGreatRbe
import Derived.Test.YtlegpkdighoflaaGreatRbg
set_option linter.unusedVariables false
set_option linter.unusedSimpArgs false
set_option maxRecDepth 100000
set_option maxHeartbeats 40000000
namespace Go.Proofs.YtlegpkdighoflaaGreat
open Go Go.RowKit Sh
section
def MVN (w:World) (mv:Value) (m:List UInt8→Option Value) (N:Nat):Prop:=(mv=.map none∧∀k,m k=none)∨∃b n,n≤N∧mv=.map (some b)∧MapV w b n m
theorem MVN.mv {w:World} {mv:Value} {m:List UInt8→Option Value} {N:Nat} (h:MVN w mv m N):MV w mv m:=by
 rcases h with h | ⟨b,n,_,h1,h2⟩
 ·exact .inl h
 ·exact .inr ⟨b,n,h1,h2⟩
theorem MVN.form {w:World} {mv:Value} {m:List UInt8→Option Value} {N:Nat} (h:MVN w mv m N):mv=.map none∨∃b,mv=.map (some b):=by
 rcases h with h | ⟨b,n,_,h1,h2⟩
 ·exact .inl h.1
 ·exact .inr ⟨b,h1⟩
theorem MVN.up {w w':World} {mv:Value} {m:List UInt8→Option Value} {N:Nat} (h:MVN w mv m N) (hb:Below w.heap.size w w'):MVN w' mv m N:=by
 rcases h with h | ⟨b,n,h0,h1,h2⟩
 ·exact .inl h
 ·exact .inr ⟨b,n,h0,h1,h2.below hb (Nat.le_refl _)⟩
theorem B3f (mv:Value) (m:List UInt8→Option Value) (N:Nat) (w:World) (h:MVN w mv m N) :
 Calls Tryz.prog 28 #[mv] w fun e w'=>((mv=.map none∧e=.returned (.map none)∧(∀k,m k=none))∨∃n,n≤N∧e=.returned (.map (some w.heap.size))∧MapV w' w.heap.size n m)∧Below w.heap.size w w':=by
 rcases h with ⟨rfl,hm⟩ | ⟨b,n,hn,rfl,h⟩
 ·refine (B8i w).mono ?_;rintro e w' ⟨rfl,rfl⟩;exact ⟨.inl ⟨rfl,rfl,hm⟩,Below.refl _ _⟩
 ·obtain⟨D,⟨es,aA,hb,F,hs,hD⟩,hl⟩:=h;refine (B5d b es aA w hb).mono ?_;rintro e w' ⟨rfl,rfl⟩;exact ⟨.inr ⟨n,hn,rfl,D,⟨es,aA,heap_alloc_new w _,F,hs,hD⟩,hl⟩,Bh _ _⟩
theorem MapV.row {w:World} {b n:Nat} {m:List UInt8→Option Value} (h:MapV w b n m):∀r,some b=some r→∃o:Obj,w.heap[r]?=some o∧o.isCells=false:=by
 obtain⟨D,⟨es,aA,hb,_⟩,_⟩:=h;intro r e;injection e with e;subst e;exact ⟨_,hb,rfl⟩
theorem D1o {A B:World} {row:Option Nat} {a:Addr} {u:Value} (h:A.cell? a=some u) (hg:A.grownBy B row) (hr:∀r,row=some r→∃o:Obj,A.heap[r]?=some o∧o.isCells=false):B.cell? a=some u:=by
 have aA:some a.block≠row:=fun e=>by
  obtain⟨o,ho,hc⟩:=hr a.block e.symm;unfold World.cell? at h;rw[ho]at h;cases o<;>cases hc<;>(dsimp only at h;cases h)
 have aB:a.block<A.heap.size:=by
  cases hb:A.heap[a.block]? with
  | none=>unfold World.cell? at h;rw[hb]at h;cases h
  | some o=>exact (Array.getElem?_eq_some_iff.1 hb).1
 unfold World.cell? at h ⊢;rw[hg.block a.block aB aA];exact h
theorem C8d {A B:World} {row:Option Nat} {lo C:Nat} {a:Option Addr} {cs:List Value} (h:Rd A lo C a cs) (hg:A.grownBy B row) (hr:∀r,row=some r→∃o:Obj,A.heap[r]?=some o∧o.isCells=false):Rd B lo C a cs:=by
 rcases h with h | ⟨g,o,h1,h2,h3,h4⟩
 ·exact .inl h
 ·exact .inr ⟨g,o,h1,h2,h3,fun j u hj=>D1o (h4 j u hj) hg hr⟩
def US (w:World) (B:Nat) (v:Value) (us:List UV):Prop:=(us=[]∧v=.slice none 0 0)∨∃g tl c,v=.slice (some ⟨g,0,none⟩) us.length c∧UH w g us tl∧g<B
theorem US.form {w:World} {B:Nat} {v:Value} {us:List UV} (h:US w B v us):∃A c,v=.slice A us.length c:=by
 rcases h with ⟨rfl,rfl⟩ | ⟨g,tl,c,rfl,_,_⟩
 ·exact ⟨none,0,rfl⟩
 ·exact ⟨_,_,rfl⟩
theorem US.below {w w':World} {B:Nat} {v:Value} {us:List UV} (h:US w B v us) (hb:Below B w w'):US w' B v us:=by
 rcases h with h | ⟨g,tl,c,h1,h2,h3⟩
 ·exact .inl h
 ·exact .inr ⟨g,tl,c,h1,h2.below hb h3,h3⟩
theorem US.more {w:World} {B B':Nat} {v:Value} {us:List UV} (h:US w B v us) (hb:B≤B'):US w B' v us:=by
 rcases h with h | ⟨g,tl,c,h1,h2,h3⟩
 ·exact .inl h
 ·exact .inr ⟨g,tl,c,h1,h2,by omega⟩
def DirIs (w:World) (dv:Value) (e:Nat) (L:List En) (N:Nat):Prop:=∃(ap:Option Addr) (mv:Value) (m:List UInt8→Option Value) (t:Tr),dv=.agg #[.int .i64 (e:Int),.pointer ap,.int .i64 0,mv]∧MVN w mv m N∧A6y w m (lookE L)∧OkE L∧Okt t∧t.pairs=pairsE L∧At w w.heap.size t (.pointer ap)
theorem DirIs.nil (w:World):DirIs w (.agg #[.int .i64 0,.pointer none,.int .i64 0,.map none]) 0 [] 0:=⟨none,_,fun _=>none,.e,rfl,.inl ⟨rfl,fun _=>rfl⟩,fun _=>.inl ⟨rfl,rfl⟩,OkE.nil,Okt.nil,rfl,rfl⟩
theorem DirIs.up {w w':World} {dv:Value} {e:Nat} {L:List En} {N:Nat} (h:DirIs w dv e L N) (hb:Below w.heap.size w w'):DirIs w' dv e L N:=by
 obtain⟨ap,mv,m,t,h1,h2,h3,h4,h5,h6,h7⟩:=h;exact ⟨ap,mv,m,t,h1,h2.up hb,h3.up hb,h4,h5,h6,(h7.below hb).more hb.size⟩
theorem Uf:RS' 34 4:=SS' Yf
theorem B9w:RS' 31 2:=SS' A8k
theorem Cf {w:World} {g o:Nat} {vs:List Value} {p:Addr} (h:p.block≠g):(C4 w ⟨g,o,none⟩ vs).cell? p=w.cell? p:=by
 have hg:=Bj w g o vs;by_cases hlt:p.block<w.heap.size
 ·unfold World.cell?;rw[hg.block p.block hlt (by simpa using h)]
 ·have h1:w.heap[p.block]?=none:=Array.getElem?_eq_none (by omega);have h2:(C4 w ⟨g,o,none⟩ vs).heap[p.block]?=none:=Array.getElem?_eq_none (by simp;omega);unfold World.cell?;rw[h1,h2]
def KSx (w:World) (a:Nat) (v:Value) (ks:List (List UInt8)):Prop:=(v=.slice none 0 0∧ks=[])∨((Hs w 0 a v ks∨Hs w (a+2) w.heap.size v ks)∧0<ks.length∧Ry w v.ownBlock 23)
def KeysX (w:World) (a:Nat) (m:List UInt8→Option Value) (K:List UInt8→List (List UInt8)):Prop:=∀k,KSx w a ((m k).getD (.slice none 0 0)) (K k)
theorem KSx.ks {w:World} {a:Nat} {v:Value} {ks:List (List UInt8)} (h:KSx w a v ks) (ha:a≤w.heap.size):KS w v ks:=by
 rcases h with h | ⟨h | h,hn,ht⟩
 ·exact .inl h
 ·exact .inr ⟨h.more ha,hn,ht⟩
 ·exact .inr ⟨h.less (Nat.zero_le _),hn,ht⟩
theorem KSx.of {w w':World} {v:Value} {ks:List (List UInt8)} (h:KS w v ks) (hb:Below w.heap.size w w'):KSx w' w.heap.size v ks:=by
 rcases h with h | ⟨h,hn,ht⟩
 ·exact .inl h
 ·exact .inr ⟨.inl (h.below hb),hn,ht.up hb⟩
theorem KSx.up {w w':World} {a:Nat} {v:Value} {ks:List (List UInt8)} (h:KSx w a v ks) (hb:Below w.heap.size w w') (ha:a≤w.heap.size):KSx w' a v ks:=by
 rcases h with h | ⟨h | h,hn,ht⟩
 ·exact .inl h
 ·exact .inr ⟨.inl (h.below (hb.mono ha)),hn,ht.up hb⟩
 ·exact .inr ⟨.inr ((h.below hb).more hb.size),hn,ht.up hb⟩
theorem KSx.put {w:World} {a g o:Nat} {vs:List Value} {v:Value} {ks:List (List UInt8)} (h:KSx w a v ks) (h1:a≤g) (h2:g<a+2):KSx (C4 w ⟨g,o,none⟩ vs) a v ks:=by
 rcases h with h | ⟨⟨h0,A,c,e1,e2,e3,e4⟩ | ⟨h0,A,c,e1,e2,e3,e4⟩,hn,ht⟩
 ·exact .inl h
 ·exact .inr ⟨.inl ⟨h0,A,c,e1,e2,e3,e4.keep fun p _ hp=>Cf (by omega)⟩,hn,ht.putAt g vs o⟩
 ·exact .inr ⟨.inr ⟨h0,A,c,e1,e2,e3,by have:=e4.keep (w':=C4 w ⟨g,o,none⟩ vs) (fun p hp _=>Cf (by omega));simpa using this⟩,hn,ht.putAt g vs o⟩
theorem KSx.own {A B:World} {row:Option Nat} {a:Nat} {v:Value} {ks:List (List UInt8)} (h:KSx A a v ks) (hg:A.grownBy B row) (hr:∀r,row=some r→∃o:Obj,A.heap[r]?=some o∧o.isCells=false):KSx B a v ks:=by
 rcases h with h | ⟨⟨h0,A,c,e1,e2,e3,e4⟩ | ⟨h0,A,c,e1,e2,e3,e4⟩,hn,ht⟩
 ·exact .inl h
 ·exact .inr ⟨.inl ⟨h0,A,c,e1,e2,e3,C8d e4 hg hr⟩,hn,ht.own hg hr⟩
 ·exact .inr ⟨.inr ⟨h0,A,c,e1,e2,e3,(C8d e4 hg hr).more hg.size⟩,hn,ht.own hg hr⟩
theorem KeysX.set {w:World} {a:Nat} {m:List UInt8→Option Value} {L:List En} (h:KeysX w a m (lookE L)) {id:List UInt8} {r:Value} {K:List (List UInt8)} {L':List En} (hr:KSx w a r K) (hL:∀x,lookE L' x=if x=id then K else lookE L x):KeysX w a (C5e m id r) (lookE L'):=fun x=>by
 rw[hL x];unfold C5e;by_cases e:x=id
 ·rw[if_pos e,if_pos e];exact hr
 ·rw[if_neg e,if_neg e];exact h x
structure ApI (w wr : World) (e : Int) (b N : Nat) (L : List En) (us : List UV) (i : Nat) (ap : Option Addr) (m : List UInt8 → Option Value) (t : Tr) (L' : List En) (n' : Nat) : Prop where
 eq:L'=applyE (us.take i) L
 hn:n'≤N+i
 kd:Bk wr w.heap.size 34 [.int .i64 e,.pointer ap,.int .i64 0,.map (some b)]
 kr:Bk wr (w.heap.size+1) 34 [.int .i64 0,.pointer none,.int .i64 0,.map none]
 mv:MapV wr b n' m
 ks:KeysX wr w.heap.size m (lookE L')
 ok:OkE L'
 okt:Okt t
 prs:t.pairs=pairsE L'
 tr:At wr wr.heap.size t (.pointer ap)
 len:L'.length≤L.length+i
 lks:∀x,(lookE L' x).length≤(lookE L x).length+i
 below:Below w.heap.size w wr
 z:w.heap.size+2≤wr.heap.size
 zb:w.heap.size+2≤b
section
variable {w wr w' : World} {e : Int} {b N : Nat} {L : List En} {us : List UV} {i : Nat} {ap : Option Addr} {m : List UInt8 → Option Value} {t : Tr} {L' : List En} {n' : Nat}
theorem ApI.up (h:ApI w wr e b N L us i ap m t L' n') (hb:Below wr.heap.size wr w'):ApI w w' e b N L us i ap m t L' n':=
 ⟨h.eq,h.hn,h.kd.below hb h.kd.lt,h.kr.below hb h.kr.lt,h.mv.below hb (Nat.le_refl _),fun k=>(h.ks k).up hb h.below.size,h.ok,h.okt,h.prs,(h.tr.below hb).more hb.size,h.len,h.lks,C2 h.below hb h.below.size,Nat.le_trans h.z hb.size,h.zb⟩
theorem ApI.skip (h:ApI w wr e b N L us i ap m t L' n') {u:UV} (hu:us[i]?=some u) (hn:Hn (lookE L' u.id) u=false):ApI w wr e b N L us (i+1) ap m t L' n':=
 { h with
  eq:=by
   have hi:=(List.getElem?_eq_some_iff.1 hu).1;have e1:us.take (i+1)=us.take i++[u]:=by rw[List.take_add_one,hu];rfl
   unfold applyE;rw[e1,List.foldl_append];show L'=Jv (applyE (us.take i) L) u;rw[←h.eq];unfold Jv;rw[hn];rfl
  hn:=Nat.le_trans h.hn (by omega)
  len:=Nat.le_trans h.len (by omega)
  lks:=fun x=>Nat.le_trans (h.lks x) (by omega) }
end
def USo (w:World) (B:Nat) (v:Value) (us:List UV):Prop:=(us=[]∧v=.slice none 0 0)∨∃g o tl c,∃pre:List UV,v=.slice (some ⟨g,o,none⟩) us.length c∧o=pre.length*129∧UH w g (pre++us) tl∧g<B
theorem USo.form {w:World} {B:Nat} {v:Value} {us:List UV} (h:USo w B v us):∃A c,v=.slice A us.length c:=by
 rcases h with ⟨h1,h2⟩ | ⟨g,o,tl,c,pre,h1,_⟩
 ·subst h1;exact ⟨none,0,h2⟩
 ·exact ⟨_,c,h1⟩
theorem US.so {w:World} {B:Nat} {v:Value} {us:List UV} (h:US w B v us):USo w B v us:=by
 rcases h with h | ⟨g,tl,c,h1,h2,h3⟩
 ·exact .inl h
 ·exact .inr ⟨g,0,tl,c,[],h1,by simp,by simpa using h2,h3⟩
theorem UH.rowO {w:World} {b o:Nat} {pre us:List UV} {tl:List Value} (h:UH w b (pre++us) tl) (ho:o=pre.length*129) {i:Nat} {u:UV} (hk:us[i]?=some u):C8 w ⟨b,o+i*129,none⟩ 129=some (Ch u):=by
 have:=h.row (i:=pre.length+i) (u:=u) (by rw[List.getElem?_append_right (by omega),Nat.add_sub_cancel_left];exact hk);rwa [Nat.add_mul,←ho]at this
attribute [local go_sem ↓ high] Ju Yw Uf B9w
theorem B3v (dv : Value) (e : Nat) (L : List En) (N : Nat) (us : List UV) (v : Value) (w : World) (hD : DirIs w dv e L N) (hU : USo w w.heap.size v us) (he : e ≤ 1000000000) (hN : N + us.length ≤ 1000000000) (hLl : L.length + us.length ≤ 1000000000) (hks : ∀ x, (lookE L x).length + us.length ≤ 1000000) :
    Calls Tryz.prog 9 #[dv, v] w fun x w' => ∃ dv', x = .returned dv' ∧ DirIs w' dv' (e + 1) (applyE us L) (N + us.length) ∧ Below w.heap.size w w' := by
  obtain ⟨ap, mv, m, t, rfl, hm, hK, cK, okt, hp, bR⟩ := hD
  obtain ⟨A, c, rfl⟩ := hU.form
  obtain ⟨n, hn⟩ := E9 (us.length)
  rw [← hn] at hN hLl hks hU ⊢
  have HN := Lib.hid hn
  have HU := Lib.hid hU
  clear hn hU
  obtain ⟨w1, cO⟩ := E9 ((w.alloc (Obj.cells #[.int .i64 ((e : Int) + 1), .pointer ap, .int .i64 0, mv] 34)).alloc (Obj.cells #[.int .i64 0, .pointer none, .int .i64 0, .map none] 34))
  have hL : w1 = O8 w [(34, [.int .i64 ((e : Int) + 1), .pointer ap, .int .i64 0, mv]), (34, [.int .i64 0, .pointer none, .int .i64 0, .map none])] := cO
  have B1 := Rf hL
  have eF := Um hL rfl
  have eG := Nm 1 hL rfl
  have z1 := SL' 2 hL rfl
  clear hL
  have eH := hm.up B1
  have eI := hK.up B1
  have bS := (bR.below B1).more B1.size
  have eN : IntKind.i64.wrap ((e : Int) + 1) = (e : Int) + 1 := IntWalk.i64_in _ (by omega)
  go_enter Tryz.func9, Tryz.ntmps9
  go_wp2_with fail
  rw [← cO]
  clear cO hm
  refine (B3f mv m N w1 eH).mono ?_
  rintro x w2 ⟨eJ, b2⟩
  have B2 := Q5 B1 b2
  have bP := eF.bl b2
  have cL := eG.bl b2
  have eK := eI.up b2
  have bT := (bS.below b2).more b2.size
  have z2 : w.heap.size + 2 ≤ w2.heap.size := by have := b2.size; omega
  have z3 : w.heap.size + 2 ≤ w1.heap.size := by omega
  clear z1
  obtain ⟨b, hb⟩ := E9 (w1.heap.size)
  rw [← hb] at eJ z3
  clear hb
  clear eF eG eI bS eH
  have d3 : w2.cell? ⟨w.heap.size, 3, none⟩ = some mv := bP.at_ rfl
  have f3 := bP.frozen 3
  rcases eJ with ⟨rfl, rfl, hnone⟩ | ⟨n0, cM, rfl, hM2⟩
  case inl =>
    obtain rfl : m = fun _ => none := funext hnone
    have hq := fun w => run_eql_map_nil_sl (P := Tryz.prog) w 32 _ _ none Tryz.underlying32
    go_wp2_with fail
    go_wp2_with fail
    obtain ⟨wa, bQ⟩ := E9 (w2.setCell ⟨w.heap.size, 3, none⟩ (.map none))
    rw [← bQ]
    have cN : Bk wa w.heap.size 34 [.int .i64 ((e : Int) + 1), .pointer ap, .int .i64 0, .map none] := by rw [bQ]; exact bP.set_ 3 _
    have eL : Bk wa (w.heap.size + 1) 34 [.int .i64 0, .pointer none, .int .i64 0, .map none] := by rw [bQ]; exact cL.far (by simp) _
    have Ba : Below w.heap.size w wa := by rw [bQ]; exact B2.setCell (Nat.le_refl _) _
    have za : w.heap.size + 2 ≤ wa.heap.size := by rw [bQ]; simpa using z2
    have dA := (cN.alloc (.map #[] 0)).at_ (i := 3) (u := .map none) rfl
    have fA := (cN.alloc (.map #[] 0)).frozen 3
    have eM := @run_makeMap Tryz.prog
    clear bQ bP cL B2 d3 f3 hq eK bT z2 b2
    simp only [eM, Result.andThen_ok]
    obtain ⟨w3, aI⟩ := E9 ((wa.alloc (.map #[] 0)).setCell ⟨w.heap.size, 3, none⟩ (.map (some wa.heap.size)))
    have bU : Bk w3 w.heap.size 34 [.int .i64 ((e : Int) + 1), .pointer ap, .int .i64 0, .map (some wa.heap.size)] := by rw [aI]; exact (cN.alloc _).set_ 3 _
    have bV : Bk w3 (w.heap.size + 1) 34 [.int .i64 0, .pointer none, .int .i64 0, .map none] := by rw [aI]; exact (eL.alloc _).far (by simp) _
    have B3 : Below w.heap.size w w3 := by rw [aI]; exact (Ba.alloc (by omega) _).setCell (Nat.le_refl _) _
    obtain ⟨n0, cM⟩ : ∃ n0 : Nat, n0 = 0 := ⟨_, rfl⟩
    have bX : MapV w3 wa.heap.size n0 (fun _ => none) := by rw [aI, cM]; exact (MapV.made wa).setCell (by simp; omega) _
    have z4 : w.heap.size + 2 ≤ w3.heap.size := by rw [aI]; simp; omega
    have A0 : ApI w w3 ((e : Int) + 1) wa.heap.size N L us 0 ap (fun _ => none) t L n0 := ⟨rfl, by omega, bU, bV, bX, fun k => KSx.of (hK k) B3, cK, okt, hp, (bR.below B3).more B3.size, Nat.le_refl _, fun x => Nat.le_refl _, B3, z4, za⟩
    clear cN eL bU bV B3 bX
    go_wp2_with fail
    rw [← aI]
    clear dA fA aI eM Ba
    obtain ⟨m0, bY⟩ : ∃ m0 : List UInt8 → Option Value, m0 = fun _ => none := ⟨_, rfl⟩
    rw [← bY] at A0
    clear bY cM hnone
    generalize wa.heap.size = b at *
    obtain ⟨tp, bZ⟩ : ∃ tp, ApI w w3 ((e : Int) + 1) b N L us 0 ap m0 tp L n0 := ⟨t, A0⟩
    clear A0 okt hp cK hK bR B1
    go_loopw [24] (fun x wr => ∃ (i : Nat) (ap : Option Addr) (m : List UInt8 → Option Value) (t : Tr) (L' : List En) (n' : Nat), i ≤ n ∧ x = .int .i64 (i : Int) ∧ ApI w wr ((e : Int) + 1) b N L us i ap m t L' n') (fun x _ => n - (intOf x).toNat)
    case atStart => exact ⟨0, ap, _, tp, L, n0, by omega, rfl, bZ⟩
    case round =>
      clear bZ
      obtain ⟨i, ap, m, t, L', n', hi, rfl, hA⟩ := hrel
      by_cases hlt : i < n
      · have hd : decide ((i : Int) < (n : Int)) = true := decide_eq_true (by omega)
        have eO := decide_eq_true hlt
        have bB : i < us.length := by rw [← HN.out]; exact hlt
        obtain ⟨u, hu⟩ : ∃ u, us[i]? = some u := ⟨_, List.getElem?_eq_getElem bB⟩
        obtain ⟨g, o, rfl, ⟨aN, tl, aO, bE⟩, hg⟩ : ∃ g o, A = some ⟨g, o, none⟩ ∧ (∃ aN tl, o = aN.length * 129 ∧ UH w g (aN ++ us) tl) ∧ g < w.heap.size := by
          rcases HU.out with ⟨h1, _⟩ | ⟨g, o, tl, c', aN, h1, h0, h2, h3⟩
          · rw [h1] at bB; simp at bB
          · injection h1 with h1; exact ⟨g, o, h1, ⟨aN, tl, h0, h2⟩, h3⟩
        have aD : u.Ok := bE.1 u (List.mem_append_right _ (List.mem_of_getElem? hu))
        have cP := UH.rowO (bE.below hA.below hg) aO hu
        have aF := aD.id
        have cA := aD.len
        have Hu := Lib.hid hu
        clear bE bB hu aO
        obtain ⟨w4, bC⟩ := E9 (C4 (wr.alloc (Obj.cells (Ch (Qj 129)).toArray 63)) ⟨wr.heap.size, 0, none⟩ (Ch u))
        have aG := (Bk.new wr 63 (Ch (Qj 129))).canvc (n := 129) (Kd _).len
        have ku : Bk w4 wr.heap.size 63 (Ch u) := by rw [bC]; exact (Bk.new wr 63 (Ch (Qj 129))).putvc (n := 129) (Kd _).len cA
        have aP := hA.up (w' := w4) (by rw [bC]; exact C0 (Bh _ _) (Nat.le_refl _) _)
        clear hA
        go_wp2_with fail
        rw [← bC]
        clear bC aG cP
        generalize wr.heap.size = gu at *
        have bF := (aP.ks u.id).ks aP.below.size
        obtain ⟨kv, bG⟩ := E9 ((m u.id).getD (.slice none 0 0))
        have cQ := Lib.hid bG
        rw [← bG] at bF
        clear bG
        have S0 := Kg w4
        have aQ := aP.up S0
        have aR := Lib.hid aQ
        have bH := ku.bl S0
        have cR := Lib.hid (bF.up S0)
        clear bF
        refine Jh (fun W => MapV W b n' m ∧ Bk W w.heap.size 34 [.int .i64 ((e : Int) + 1), .pointer ap, .int .i64 0, .map (some b)] ∧ Bk W gu 63 (Ch u)) ?_
        refine Fs (A := ?eP) [0, 1, 2, 3, 4, 5] ⟨aQ.mv, aQ.kd, bH⟩ (fun W hW => ?cS) ?eQ
        case cS =>
          have f1 : W.cell? ⟨w.heap.size, 3, none⟩ = some (.map (some b)) := hW.2.1.at_ (i := 3) rfl
          have f2 := UV.loadid hW.2.2 aD
          have f3 := hW.1.look aF
          rw [← cQ.out] at f3
          have f4 := Bk.rowvc (n := 129) hW.2.2 cA
          exact Gq
        refine Ci 6 fun Q' hQ' => ?_
        dsimp only [C7]
        have aS := Lib.hid hQ'
        clear hQ'
        go_wp2_with fail
        refine (B5x kv (lookE L' u.id) u aD w4.drew cR.out (by have := aR.out.lks u.id; have := hks u.id; omega)).mono ?_
        rintro x w6 ⟨r, rfl, aJ, b6⟩
        have aB := aQ.up b6
        have aT := bH.bl b6
        obtain ⟨Ar, cr, rfl, cT, cU⟩ := aJ.form
        have aK := Lib.hid aJ
        clear aJ
        go_wp2_with fail
        refine aS.out _ _ ⟨aB.mv, aB.kd, aT⟩ ?_
        clear aS
        refine Fs (A := ?eS) [7, 8, 9, 10, 11] ⟨aB.mv, aB.kd, aT⟩ (fun W hW => ?cV) ?eT
        case cV =>
          simp only [List.append_eq, Vb, pick, Wt]
          repeat (go_big_quiet_step (fail))
          refine wpQuiet_nil ?_
          rfl
        refine It ?_
        clear aQ aR bH b6 S0
        cases hnb : Hn (lookE L' u.id) u with
        | false =>
          have cW : (Lx (lookE L' u.id) u == 0) = false := by
            cases hz : (Lx (lookE L' u.id) u == 0) with
            | false => rfl
            | true => rw [beq_iff_eq, Ox] at hz; rw [hz] at hnb; cases hnb
          have cX := Lib.hid (aB.skip Hu.out hnb)
          go_wp2_with fail
          go_roundw
          case rel => exact ⟨i + 1, ap, m, t, L', n', by omega, by go_num, cX.out⟩
          case measure => simp [intOf]; omega
        | true =>
          have cW : (Lx (lookE L' u.id) u == 0) = true := by rw [beq_iff_eq, Ox]; exact hnb
          have bI := A7e hnb
          have aU : (Ms (lookE L' u.id) u).length ≤ 1000000 := by
            rw [bI]; simp
            have := aB.lks u.id; have := hks u.id; omega
          obtain ⟨D, hD, aV⟩ := aB.mv.put aF (.slice Ar (Ms (lookE L' u.id) u).length cr)
          have f1 : w6.cell? ⟨w.heap.size, 3, none⟩ = some (.map (some b)) := aB.kd.at_ (i := 3) rfl
          have f2 := UV.loadid aT aD
          have cY : n' < maxLen := by have := aB.hn; unfold maxLen; omega
          have HE := Lib.hid bI
          have HL := Lib.hid aU
          clear bI aU
          generalize hgl : (Ms (lookE L' u.id) u).length = nk at *
          go_wp2_with (first | (at_mapUpdate; refine wpList_mapUpdate_own _ rfl _ _ _ 32 rfl 23 42 Kx Tryz.underlying32 RV b n' D rfl hD cY _ _ (A4l u.id) rfl rfl (Ue aF) (.held (.slice Ar nk cr)) [] rfl ?_; intro w7 aH aA) | fail)
          dsimp only [Act.put]
          have aC := aB.mv.row
          have cB := aV w7 aH
          have z6 : w.heap.size + 2 ≤ w4.drew.heap.size := aP.z
          have cC : KSx w6 w.heap.size (.slice Ar nk cr) (lookE L' u.id ++ [u.key]) := by
            have h1 := aK.out.hs
            rw [HE.out] at h1
            exact .inr ⟨.inr (h1.less z6), by simp, Pj aK.out.2⟩
          have bJ := cC.own aA aC
          have aW := KeysX.set (fun k => (aB.ks k).own aA aC) bJ (fun x => Lt aB.ok aF aD.key x)
          have bK := Db aB.kd aA aC
          have cD := Db aB.kr aA aC
          have bD := Db aT aA aC
          have aX := (B0j aA aC aB.tr).more aA.size
          have cZ := aB.zb
          have B7 := aB.below.grown aA aB.below.size (fun k hk => by cases hk; omega)
          have cE : Hs w7 0 w7.heap.size (.slice Ar nk cr) (lookE L' u.id ++ [u.key]) := by
            rcases bJ.ks B7.size with ⟨h, _⟩ | ⟨h, _⟩
            · injection h with h1 h2 h3
              have := aK.out.form
              obtain ⟨_, _, e, _⟩ := this
              have cF := congrArg List.length HE.out
              rw [hgl, h2] at cF
              simp at cF
            · exact h
          have z7 := Nat.le_trans aB.z aA.size
          have dC : ApI w w7 ((e : Int) + 1) b N L us i ap m t L' n' → True := fun _ => trivial
          have dD : Hid ((lookE L' u.id ++ [u.key]).length ≤ 1000000) := Lib.hid (by
            have h1 := hgl
            rw [HE.out] at h1
            rw [h1]; exact HL.out)
          have bL : t.len ≤ 1000000000000 := by rw [Tr.len_pairs, aB.prs, Cg]; have := aB.len; omega
          obtain ⟨dF, dG⟩ := A0d (key := u.key) aB.okt aB.prs aF
          have eU := B4k (key := u.key) aB.okt aB.prs aF
          have dI := aB.ok.with aF aD.key
          have dJ : Hid (Ck u.id u.key L' = applyE (us.take (i + 1)) L) := Lib.hid (by
            have e1 : us.take (i + 1) = us.take i ++ [u] := by rw [List.take_add_one, Hu.out]; rfl
            unfold applyE
            rw [e1, List.foldl_append]
            show _ = Jv (applyE (us.take i) L) u
            rw [← aB.eq]
            unfold Jv
            rw [hnb]; rfl)
          have dK : Hid (∀ x, (lookE (Ck u.id u.key L') x).length ≤ (lookE L x).length + (i + 1)) := Lib.hid (fun x => by
            rw [Lt aB.ok aF aD.key x]
            by_cases hx : x = u.id
            · rw [if_pos hx, hx]; have := aB.lks u.id; simp; omega
            · rw [if_neg hx]; have := aB.lks x; omega)
          have bM := aB.okt
          have eV := aB.hn
          have eX := aB.len
          have eY := aD.key
          clear aV aH aA aC aB aT aP ku cC bJ hD f1 f2 dC
          have S7 := Kg w7
          have dL := Lib.hid ((cE.below S7).more S7.size)
          clear cE
          refine Jh (fun W => Bk W gu 63 (Ch u)) ?_
          refine Fs (A := ?eZ) [0, 2, 3, 4] bD.drew (fun W hW => ?dM) ?fB
          case dM =>
            have f2 := UV.loadid hW aD
            exact Gq
          refine N8 [zv 1 46 (.agg #[.pointer ap, .int .i64 0]), zv 5 50 (A8 (Dd (lookE L' u.id ++ [u.key])))] (by kernel_rfl) (fun W hW => bD.drew.bl hW) ?dN ?dO ?dQ
          case dN => exact Z3 ⟨Pb _ _ _, Z3 ⟨Pb _ _ _, fun _ h => by cases h⟩⟩
          case dO =>
            refine Z3 ⟨?fC, Z3 ⟨?fD, fun _ h => by cases h⟩⟩
            case fC =>
              intro o ho us W hW hp Q' hQ'
              obtain rfl := Option.some.inj ho
              clear hp ho
              have f1 : C8 W ⟨w.heap.size, 1, none⟩ 2 = some [.pointer ap, .int .i64 0] := (bK.drew.bl hW).row (o := 1) (n := 2) (by simp)
              rw [C1] at hQ' ⊢
              dsimp only [C7, E5, List.foldl, zv] at hQ' ⊢
              simp only [Cy]
              go_wp2_with fail
              exact Ea (hQ' _ _ (Below.refl _ _) rfl nofun)
            case fD =>
              intro o ho us W hW hp Q' hQ'
              obtain rfl := Option.some.inj ho
              clear hp ho
              rw [C1] at hQ' ⊢
              dsimp only [C7, E5, List.foldl, zv] at hQ' ⊢
              simp only [Cy]
              have dS := Lib.hid ((dL.out.below hW).more hW.size)
              go_wp2_with fail
              refine (Vh _ (lookE L' u.id ++ [u.key]) W dS.out dD.out).mono ?_
              rintro x w8 ⟨rfl, b8⟩
              go_wp2_with fail
              exact Ea (hQ' _ _ b8 rfl nofun)
          case dQ =>
          intro vs w8 b8 hg bN dT
          have cG : vs 1 = .agg #[.pointer ap, .int .i64 0] := hg _ (Ca 0 rfl)
          have cH : vs 5 = A8 (Dd (lookE L' u.id ++ [u.key])) := hg _ (Ca 1 rfl)
          rw [C1]
          dsimp only [E5, List.foldl, zv]
          simp only [Cy]
          rw [cG, cH]
          clear hg bN dT cG cH
          have cI := bK.drew.bl b8
          have cJ := bD.drew.bl b8
          refine Ci 6 fun Q' hQ' => ?_
          dsimp only [C7]
          have aS := Lib.hid hQ'
          clear hQ'
          go_wp2_with fail
          refine (B1z u.id (Dd (lookE L' u.id ++ [u.key])) aF (Gh _) 0 t P0 (.pointer ap) w8 (by omega) (fun i hi => by omega) bM bL (((aX.below S7).more S7.size).below b8 |>.more b8.size)).mono ?_
          rintro x w9 ⟨q2, rfl, aL, b9⟩
          obtain ⟨aY, rfl⟩ := aL.form
          have aZ := cI.bl b9
          have bA := cJ.bl b9
          have aM := C2 (C2 S7 b8 S7.size) b9 (Nat.le_trans S7.size b8.size)
          have aG : P7 w9 ⟨w.heap.size, 1, none⟩ 2 = true := aZ.can (by simp)
          go_wp2_with fail
          refine aS.out _ _ bA ?_
          clear aS
          refine Ci 7 fun Q' hQ' => ?_
          dsimp only [C7]
          go_wp2_with fail
          refine hQ' _ _ bA ?_
          clear hQ'
          refine Ci 8 fun Q' hQ' => ?_
          dsimp only [C7]
          go_wp2_with fail
          obtain ⟨wf, aE⟩ := E9 (C4 w9 ⟨w.heap.size, 1, none⟩ [.pointer aY, .int .i64 0])
          rw [← aE]
          have dU : Bk wf w.heap.size 34 [.int .i64 ((e : Int) + 1), .pointer aY, .int .i64 0, .map (some b)] := by rw [aE]; exact (aZ.set_ 1 _).set_ 2 _
          have dW : Bk wf (w.heap.size + 1) 34 [.int .i64 0, .pointer none, .int .i64 0, .map none] := by rw [aE]; exact (cD.bl aM).putFar (by simp) _
          have dX : Bk wf gu 63 (Ch u) := by
            rw [aE]
            exact bA.putFar (fun hc => by
              have h1 := bA
              rw [hc] at h1
              exact Bk.apart h1 aZ (by decide) rfl) _
          have zf : w.heap.size + 2 ≤ wf.heap.size := by rw [aE]; have := aM.size; simp; omega
          have dY : ApI w wf ((e : Int) + 1) b N L us (i + 1) aY (C5e m u.id (.slice Ar nk cr)) (A3h t u.id (Dd (lookE L' u.id ++ [u.key]))) (Ck u.id u.key L') (n' + 1) :=
            { eq := dJ.out, hn := by omega, kd := dU, kr := dW,
              mv := by rw [aE]; exact (cB.below aM (Nat.le_refl _)).kept (row := some w.heap.size) (Bj w9 _ 1 _) (by simp; omega),
              ks := by rw [aE]; exact fun k => ((aW k).up aM B7.size).put (Nat.le_refl _) (by omega),
              ok := dI, okt := dF, prs := dG,
              tr := by rw [aE]; unfold A3h; have := At.put_ aZ (by decide) 1 [.pointer aY, .int .i64 0] aL; simpa using this,
              len := by omega, lks := dK.out,
              below := by rw [aE]; exact C0 (C2 B7 aM B7.size) (Nat.le_refl _) _,
              z := zf, zb := cZ }
          refine hQ' _ _ dX ?_
          clear hQ' aZ bA aG aL b9 b8 aM cI cJ aW cB bK cD bD aX aE
          refine It ?_
          go_wp2_with fail
          go_roundw
          case rel => exact ⟨i + 1, aY, _, _, _, n' + 1, by omega, by go_num, dY⟩
          case measure => simp [intOf]; omega
      · obtain rfl : i = n := by omega
        have hd : decide ((i : Int) < (i : Int)) = false := decide_eq_false (by omega)
        have c0 := hA.kd.row (o := 0) (n := 4) (by simp)
        have aG : P7 wr ⟨w.heap.size + 1, 0, none⟩ 4 = true := hA.kr.can (by simp)
        go_wp2_with fail
        have Bf := C0 (a := ⟨w.heap.size + 1, 0, none⟩) hA.below (Nat.le_succ _) [.int .i64 ((e : Int) + 1), .pointer ap, .int .i64 0, .map (some b)]
        have bO : applyE us L = L' := by rw [hA.eq, List.take_of_length_le (by rw [← HN.out]; exact Nat.le_refl _)]
        refine bodyPost_ret (C5 rfl _ _ _ _ _ _ rfl (hA.kr.puts (vs := [.int .i64 ((e : Int) + 1), .pointer ap, .int .i64 0, .map (some b)]) (by simp)) Wa rfl (by simp [Yf])) rfl
          ⟨_, rfl, ⟨ap, .map (some b), m, t, rfl, .inr ⟨b, n', hA.hn, rfl, ?_⟩, ?_, ?_, hA.okt, ?_, ?_⟩, Bf⟩
        · exact hA.mv.kept (row := some (w.heap.size + 1)) (Bj wr _ 0 _) (by have := hA.zb; simp; omega)
        · rw [bO]
          exact fun k => ((hA.ks k).put (by omega) (by omega)).ks (by have := hA.below.size; simpa using this)
        · rw [bO]; exact hA.ok
        · rw [bO]; exact hA.prs
        · have := At.put_ hA.kr (by decide) 0 [.int .i64 ((e : Int) + 1), .pointer ap, .int .i64 0, .map (some b)] hA.tr
          simpa using this
  case inr =>
    have hq := fun w => run_eql_map_nil_sl (P := Tryz.prog) w 32 _ _ (some b) Tryz.underlying32
    obtain ⟨w3, aI⟩ := E9 (w2.setCell ⟨w.heap.size, 3, none⟩ (.map (some b)))
    have bU : Bk w3 w.heap.size 34 [.int .i64 ((e : Int) + 1), .pointer ap, .int .i64 0, .map (some b)] := by rw [aI]; exact bP.set_ 3 _
    have bV : Bk w3 (w.heap.size + 1) 34 [.int .i64 0, .pointer none, .int .i64 0, .map none] := by rw [aI]; exact cL.far (by simp) _
    have B3 : Below w.heap.size w w3 := by rw [aI]; exact B2.setCell (Nat.le_refl _) _
    have bX : MapV w3 b n0 m := by rw [aI]; exact hM2.setCell (by simp; omega) _
    have z4 : w.heap.size + 2 ≤ w3.heap.size := by rw [aI]; simpa using z2
    have A0 : ApI w w3 ((e : Int) + 1) b N L us 0 ap m t L n0 := ⟨rfl, cM, bU, bV, bX, fun k => KSx.of (hK k) B3, cK, okt, hp, (bR.below B3).more B3.size, Nat.le_refl _, fun x => Nat.le_refl _, B3, z4, z3⟩
    clear bU bV B3 bX
    go_wp2_with fail
    rw [← aI]
    clear aI hq d3 f3 hM2 bP cL B2 eK bT z2 b2
    obtain ⟨m0, bY⟩ : ∃ m0 : List UInt8 → Option Value, m0 = m := ⟨_, rfl⟩
    rw [← bY] at A0
    clear bY
    obtain ⟨tp, bZ⟩ : ∃ tp, ApI w w3 ((e : Int) + 1) b N L us 0 ap m0 tp L n0 := ⟨t, A0⟩
    clear A0 okt hp cK hK bR B1
    go_loopw [24] (fun x wr => ∃ (i : Nat) (ap : Option Addr) (m : List UInt8 → Option Value) (t : Tr) (L' : List En) (n' : Nat), i ≤ n ∧ x = .int .i64 (i : Int) ∧ ApI w wr ((e : Int) + 1) b N L us i ap m t L' n') (fun x _ => n - (intOf x).toNat)
    case atStart => exact ⟨0, ap, _, tp, L, n0, by omega, rfl, bZ⟩
    case round =>
      clear bZ
      obtain ⟨i, ap, m, t, L', n', hi, rfl, hA⟩ := hrel
      by_cases hlt : i < n
      · have hd : decide ((i : Int) < (n : Int)) = true := decide_eq_true (by omega)
        have eO := decide_eq_true hlt
        have bB : i < us.length := by rw [← HN.out]; exact hlt
        obtain ⟨u, hu⟩ : ∃ u, us[i]? = some u := ⟨_, List.getElem?_eq_getElem bB⟩
        obtain ⟨g, o, rfl, ⟨aN, tl, aO, bE⟩, hg⟩ : ∃ g o, A = some ⟨g, o, none⟩ ∧ (∃ aN tl, o = aN.length * 129 ∧ UH w g (aN ++ us) tl) ∧ g < w.heap.size := by
          rcases HU.out with ⟨h1, _⟩ | ⟨g, o, tl, c', aN, h1, h0, h2, h3⟩
          · rw [h1] at bB; simp at bB
          · injection h1 with h1; exact ⟨g, o, h1, ⟨aN, tl, h0, h2⟩, h3⟩
        have aD : u.Ok := bE.1 u (List.mem_append_right _ (List.mem_of_getElem? hu))
        have cP := UH.rowO (bE.below hA.below hg) aO hu
        have aF := aD.id
        have cA := aD.len
        have Hu := Lib.hid hu
        clear bE bB hu aO
        obtain ⟨w4, bC⟩ := E9 (C4 (wr.alloc (Obj.cells (Ch (Qj 129)).toArray 63)) ⟨wr.heap.size, 0, none⟩ (Ch u))
        have aG := (Bk.new wr 63 (Ch (Qj 129))).canvc (n := 129) (Kd _).len
        have ku : Bk w4 wr.heap.size 63 (Ch u) := by rw [bC]; exact (Bk.new wr 63 (Ch (Qj 129))).putvc (n := 129) (Kd _).len cA
        have aP := hA.up (w' := w4) (by rw [bC]; exact C0 (Bh _ _) (Nat.le_refl _) _)
        clear hA
        go_wp2_with fail
        rw [← bC]
        clear bC aG cP
        generalize wr.heap.size = gu at *
        have bF := (aP.ks u.id).ks aP.below.size
        obtain ⟨kv, bG⟩ := E9 ((m u.id).getD (.slice none 0 0))
        have cQ := Lib.hid bG
        rw [← bG] at bF
        clear bG
        have S0 := Kg w4
        have aQ := aP.up S0
        have aR := Lib.hid aQ
        have bH := ku.bl S0
        have cR := Lib.hid (bF.up S0)
        clear bF
        refine Jh (fun W => MapV W b n' m ∧ Bk W w.heap.size 34 [.int .i64 ((e : Int) + 1), .pointer ap, .int .i64 0, .map (some b)] ∧ Bk W gu 63 (Ch u)) ?_
        refine Fs (A := ?fE) [0, 1, 2, 3, 4, 5] ⟨aQ.mv, aQ.kd, bH⟩ (fun W hW => ?dZ) ?fF
        case dZ =>
          have f1 : W.cell? ⟨w.heap.size, 3, none⟩ = some (.map (some b)) := hW.2.1.at_ (i := 3) rfl
          have f2 := UV.loadid hW.2.2 aD
          have f3 := hW.1.look aF
          rw [← cQ.out] at f3
          have f4 := Bk.rowvc (n := 129) hW.2.2 cA
          exact Gq
        refine Ci 6 fun Q' hQ' => ?_
        dsimp only [C7]
        have aS := Lib.hid hQ'
        clear hQ'
        go_wp2_with fail
        refine (B5x kv (lookE L' u.id) u aD w4.drew cR.out (by have := aR.out.lks u.id; have := hks u.id; omega)).mono ?_
        rintro x w6 ⟨r, rfl, aJ, b6⟩
        have aB := aQ.up b6
        have aT := bH.bl b6
        obtain ⟨Ar, cr, rfl, cT, cU⟩ := aJ.form
        have aK := Lib.hid aJ
        clear aJ
        go_wp2_with fail
        refine aS.out _ _ ⟨aB.mv, aB.kd, aT⟩ ?_
        clear aS
        refine Fs (A := ?fG) [7, 8, 9, 10, 11] ⟨aB.mv, aB.kd, aT⟩ (fun W hW => ?eA) ?fH
        case eA =>
          simp only [List.append_eq, Vb, pick, Wt]
          repeat (go_big_quiet_step (fail))
          refine wpQuiet_nil ?_
          rfl
        refine It ?_
        clear aQ aR bH b6 S0
        cases hnb : Hn (lookE L' u.id) u with
        | false =>
          have cW : (Lx (lookE L' u.id) u == 0) = false := by
            cases hz : (Lx (lookE L' u.id) u == 0) with
            | false => rfl
            | true => rw [beq_iff_eq, Ox] at hz; rw [hz] at hnb; cases hnb
          have cX := Lib.hid (aB.skip Hu.out hnb)
          go_wp2_with fail
          go_roundw
          case rel => exact ⟨i + 1, ap, m, t, L', n', by omega, by go_num, cX.out⟩
          case measure => simp [intOf]; omega
        | true =>
          have cW : (Lx (lookE L' u.id) u == 0) = true := by rw [beq_iff_eq, Ox]; exact hnb
          have bI := A7e hnb
          have aU : (Ms (lookE L' u.id) u).length ≤ 1000000 := by
            rw [bI]; simp
            have := aB.lks u.id; have := hks u.id; omega
          obtain ⟨D, hD, aV⟩ := aB.mv.put aF (.slice Ar (Ms (lookE L' u.id) u).length cr)
          have f1 : w6.cell? ⟨w.heap.size, 3, none⟩ = some (.map (some b)) := aB.kd.at_ (i := 3) rfl
          have f2 := UV.loadid aT aD
          have cY : n' < maxLen := by have := aB.hn; unfold maxLen; omega
          have HE := Lib.hid bI
          have HL := Lib.hid aU
          clear bI aU
          generalize hgl : (Ms (lookE L' u.id) u).length = nk at *
          go_wp2_with (first | (at_mapUpdate; refine wpList_mapUpdate_own _ rfl _ _ _ 32 rfl 23 42 Kx Tryz.underlying32 RV b n' D rfl hD cY _ _ (A4l u.id) rfl rfl (Ue aF) (.held (.slice Ar nk cr)) [] rfl ?_; intro w7 aH aA) | fail)
          dsimp only [Act.put]
          have aC := aB.mv.row
          have cB := aV w7 aH
          have z6 : w.heap.size + 2 ≤ w4.drew.heap.size := aP.z
          have cC : KSx w6 w.heap.size (.slice Ar nk cr) (lookE L' u.id ++ [u.key]) := by
            have h1 := aK.out.hs
            rw [HE.out] at h1
            exact .inr ⟨.inr (h1.less z6), by simp, Pj aK.out.2⟩
          have bJ := cC.own aA aC
          have aW := KeysX.set (fun k => (aB.ks k).own aA aC) bJ (fun x => Lt aB.ok aF aD.key x)
          have bK := Db aB.kd aA aC
          have cD := Db aB.kr aA aC
          have bD := Db aT aA aC
          have aX := (B0j aA aC aB.tr).more aA.size
          have cZ := aB.zb
          have B7 := aB.below.grown aA aB.below.size (fun k hk => by cases hk; omega)
          have cE : Hs w7 0 w7.heap.size (.slice Ar nk cr) (lookE L' u.id ++ [u.key]) := by
            rcases bJ.ks B7.size with ⟨h, _⟩ | ⟨h, _⟩
            · injection h with h1 h2 h3
              have := aK.out.form
              obtain ⟨_, _, e, _⟩ := this
              have cF := congrArg List.length HE.out
              rw [hgl, h2] at cF
              simp at cF
            · exact h
          have z7 := Nat.le_trans aB.z aA.size
          have dC : ApI w w7 ((e : Int) + 1) b N L us i ap m t L' n' → True := fun _ => trivial
          have dD : Hid ((lookE L' u.id ++ [u.key]).length ≤ 1000000) := Lib.hid (by
            have h1 := hgl
            rw [HE.out] at h1
            rw [h1]; exact HL.out)
          have bL : t.len ≤ 1000000000000 := by rw [Tr.len_pairs, aB.prs, Cg]; have := aB.len; omega
          obtain ⟨dF, dG⟩ := A0d (key := u.key) aB.okt aB.prs aF
          have eU := B4k (key := u.key) aB.okt aB.prs aF
          have dI := aB.ok.with aF aD.key
          have dJ : Hid (Ck u.id u.key L' = applyE (us.take (i + 1)) L) := Lib.hid (by
            have e1 : us.take (i + 1) = us.take i ++ [u] := by rw [List.take_add_one, Hu.out]; rfl
            unfold applyE
            rw [e1, List.foldl_append]
            show _ = Jv (applyE (us.take i) L) u
            rw [← aB.eq]
            unfold Jv
            rw [hnb]; rfl)
          have dK : Hid (∀ x, (lookE (Ck u.id u.key L') x).length ≤ (lookE L x).length + (i + 1)) := Lib.hid (fun x => by
            rw [Lt aB.ok aF aD.key x]
            by_cases hx : x = u.id
            · rw [if_pos hx, hx]; have := aB.lks u.id; simp; omega
            · rw [if_neg hx]; have := aB.lks x; omega)
          have bM := aB.okt
          have eV := aB.hn
          have eX := aB.len
          have eY := aD.key
          clear aV aH aA aC aB aT aP ku cC bJ hD f1 f2 dC
          have S7 := Kg w7
          have dL := Lib.hid ((cE.below S7).more S7.size)
          clear cE
          refine Jh (fun W => Bk W gu 63 (Ch u)) ?_
          refine Fs (A := ?fI) [0, 2, 3, 4] bD.drew (fun W hW => ?eB) ?fJ
          case eB =>
            have f2 := UV.loadid hW aD
            exact Gq
          refine N8 [zv 1 46 (.agg #[.pointer ap, .int .i64 0]), zv 5 50 (A8 (Dd (lookE L' u.id ++ [u.key])))] (by kernel_rfl) (fun W hW => bD.drew.bl hW) ?eC ?eD ?eE
          case eC => exact Z3 ⟨Pb _ _ _, Z3 ⟨Pb _ _ _, fun _ h => by cases h⟩⟩
          case eD =>
            refine Z3 ⟨?fK, Z3 ⟨?fL, fun _ h => by cases h⟩⟩
            case fK =>
              intro o ho us W hW hp Q' hQ'
              obtain rfl := Option.some.inj ho
              clear hp ho
              have f1 : C8 W ⟨w.heap.size, 1, none⟩ 2 = some [.pointer ap, .int .i64 0] := (bK.drew.bl hW).row (o := 1) (n := 2) (by simp)
              rw [C1] at hQ' ⊢
              dsimp only [C7, E5, List.foldl, zv] at hQ' ⊢
              simp only [Cy]
              go_wp2_with fail
              exact Ea (hQ' _ _ (Below.refl _ _) rfl nofun)
            case fL =>
              intro o ho us W hW hp Q' hQ'
              obtain rfl := Option.some.inj ho
              clear hp ho
              rw [C1] at hQ' ⊢
              dsimp only [C7, E5, List.foldl, zv] at hQ' ⊢
              simp only [Cy]
              have dS := Lib.hid ((dL.out.below hW).more hW.size)
              go_wp2_with fail
              refine (Vh _ (lookE L' u.id ++ [u.key]) W dS.out dD.out).mono ?_
              rintro x w8 ⟨rfl, b8⟩
              go_wp2_with fail
              exact Ea (hQ' _ _ b8 rfl nofun)
          case eE =>
          intro vs w8 b8 hg bN dT
          have cG : vs 1 = .agg #[.pointer ap, .int .i64 0] := hg _ (Ca 0 rfl)
          have cH : vs 5 = A8 (Dd (lookE L' u.id ++ [u.key])) := hg _ (Ca 1 rfl)
          rw [C1]
          dsimp only [E5, List.foldl, zv]
          simp only [Cy]
          rw [cG, cH]
          clear hg bN dT cG cH
          have cI := bK.drew.bl b8
          have cJ := bD.drew.bl b8
          refine Ci 6 fun Q' hQ' => ?_
          dsimp only [C7]
          have aS := Lib.hid hQ'
          clear hQ'
          go_wp2_with fail
          refine (B1z u.id (Dd (lookE L' u.id ++ [u.key])) aF (Gh _) 0 t P0 (.pointer ap) w8 (by omega) (fun i hi => by omega) bM bL (((aX.below S7).more S7.size).below b8 |>.more b8.size)).mono ?_
          rintro x w9 ⟨q2, rfl, aL, b9⟩
          obtain ⟨aY, rfl⟩ := aL.form
          have aZ := cI.bl b9
          have bA := cJ.bl b9
          have aM := C2 (C2 S7 b8 S7.size) b9 (Nat.le_trans S7.size b8.size)
          have aG : P7 w9 ⟨w.heap.size, 1, none⟩ 2 = true := aZ.can (by simp)
          go_wp2_with fail
          refine aS.out _ _ bA ?_
          clear aS
          refine Ci 7 fun Q' hQ' => ?_
          dsimp only [C7]
          go_wp2_with fail
          refine hQ' _ _ bA ?_
          clear hQ'
          refine Ci 8 fun Q' hQ' => ?_
          dsimp only [C7]
          go_wp2_with fail
          obtain ⟨wf, aE⟩ := E9 (C4 w9 ⟨w.heap.size, 1, none⟩ [.pointer aY, .int .i64 0])
          rw [← aE]
          have dU : Bk wf w.heap.size 34 [.int .i64 ((e : Int) + 1), .pointer aY, .int .i64 0, .map (some b)] := by rw [aE]; exact (aZ.set_ 1 _).set_ 2 _
          have dW : Bk wf (w.heap.size + 1) 34 [.int .i64 0, .pointer none, .int .i64 0, .map none] := by rw [aE]; exact (cD.bl aM).putFar (by simp) _
          have dX : Bk wf gu 63 (Ch u) := by
            rw [aE]
            exact bA.putFar (fun hc => by
              have h1 := bA
              rw [hc] at h1
              exact Bk.apart h1 aZ (by decide) rfl) _
          have zf : w.heap.size + 2 ≤ wf.heap.size := by rw [aE]; have := aM.size; simp; omega
          have dY : ApI w wf ((e : Int) + 1) b N L us (i + 1) aY (C5e m u.id (.slice Ar nk cr)) (A3h t u.id (Dd (lookE L' u.id ++ [u.key]))) (Ck u.id u.key L') (n' + 1) :=
            { eq := dJ.out, hn := by omega, kd := dU, kr := dW,
              mv := by rw [aE]; exact (cB.below aM (Nat.le_refl _)).kept (row := some w.heap.size) (Bj w9 _ 1 _) (by simp; omega),
              ks := by rw [aE]; exact fun k => ((aW k).up aM B7.size).put (Nat.le_refl _) (by omega),
              ok := dI, okt := dF, prs := dG,
              tr := by rw [aE]; unfold A3h; have := At.put_ aZ (by decide) 1 [.pointer aY, .int .i64 0] aL; simpa using this,
              len := by omega, lks := dK.out,
              below := by rw [aE]; exact C0 (C2 B7 aM B7.size) (Nat.le_refl _) _,
              z := zf, zb := cZ }
          refine hQ' _ _ dX ?_
          clear hQ' aZ bA aG aL b9 b8 aM cI cJ aW cB bK cD bD aX aE
          refine It ?_
          go_wp2_with fail
          go_roundw
          case rel => exact ⟨i + 1, aY, _, _, _, n' + 1, by omega, by go_num, dY⟩
          case measure => simp [intOf]; omega
      · obtain rfl : i = n := by omega
        have hd : decide ((i : Int) < (i : Int)) = false := decide_eq_false (by omega)
        have c0 := hA.kd.row (o := 0) (n := 4) (by simp)
        have aG : P7 wr ⟨w.heap.size + 1, 0, none⟩ 4 = true := hA.kr.can (by simp)
        go_wp2_with fail
        have Bf := C0 (a := ⟨w.heap.size + 1, 0, none⟩) hA.below (Nat.le_succ _) [.int .i64 ((e : Int) + 1), .pointer ap, .int .i64 0, .map (some b)]
        have bO : applyE us L = L' := by rw [hA.eq, List.take_of_length_le (by rw [← HN.out]; exact Nat.le_refl _)]
        refine bodyPost_ret (C5 rfl _ _ _ _ _ _ rfl (hA.kr.puts (vs := [.int .i64 ((e : Int) + 1), .pointer ap, .int .i64 0, .map (some b)]) (by simp)) Wa rfl (by simp [Yf])) rfl
          ⟨_, rfl, ⟨ap, .map (some b), m, t, rfl, .inr ⟨b, n', hA.hn, rfl, ?_⟩, ?_, ?_, hA.okt, ?_, ?_⟩, Bf⟩
        · exact hA.mv.kept (row := some (w.heap.size + 1)) (Bj wr _ 0 _) (by have := hA.zb; simp; omega)
        · rw [bO]
          exact fun k => ((hA.ks k).put (by omega) (by omega)).ks (by have := hA.below.size; simpa using this)
        · rw [bO]; exact hA.ok
        · rw [bO]; exact hA.prs
        · have := At.put_ hA.kr (by decide) 0 [.int .i64 ((e : Int) + 1), .pointer ap, .int .i64 0, .map (some b)] hA.tr
          simpa using this
theorem A3y (dv:Value) (e:Nat) (L:List En) (N:Nat) (us:List UV) (v:Value) (w:World) (hD:DirIs w dv e L N) (hU:US w w.heap.size v us) (he:e≤1000000000) (hN:N+us.length≤1000000000) (hLl:L.length+us.length≤1000000000) (hks:∀x,(lookE L x).length+us.length≤1000000) :
 Calls Tryz.prog 9 #[dv,v] w fun x w'=>∃dv',x=.returned dv'∧DirIs w' dv' (e+1) (applyE us L) (N+us.length)∧Below w.heap.size w w':=
 B3v dv e L N us v w hD hU.so he hN hLl hks
end
end Go.Proofs.YtlegpkdighoflaaGreat
