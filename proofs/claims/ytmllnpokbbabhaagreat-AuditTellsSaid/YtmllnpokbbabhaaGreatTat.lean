/- A part of the proof of AuditTells. -/
import Derived.Lib.SlBytesConst
import Derived.Test.YtmllnpokbbabhaaGreatTas
set_option linter.unusedVariables false
set_option linter.unusedSimpArgs false
set_option maxRecDepth 100000
set_option maxHeartbeats 40000000
namespace Go.Proofs.YtmllnpokbbabhaaGreat
open Go Go.RowKit Sh
section
theorem Bk.parts {w:World} {g:Nat} {t:TypeId} {vs:List Value} {ls:List (List UInt8)} (K:Bk w g t vs) (hl:vs.length=ls.length) (hn:vs.length≤maxLen) (h:∀(i:Nat) (x:Value) (l:List UInt8),vs[i]?=some x→ls[i]?=some l→By w 0 w.heap.size x l) :
 M6 w w.heap.size (.slice (some ⟨g,0,none⟩) vs.length vs.length) ls:=
 ⟨vs,⟨some ⟨g,0,none⟩,vs.length,rfl,Nat.le_refl _,hn,.inr ⟨g,0,rfl,Nat.zero_le _,K.lt,fun j u hj=>K.at_ (by simpa using hj)⟩⟩,hl,h⟩
theorem Bk.parts1 {w:World} {g:Nat} {t:TypeId} {v:Value} {l:List UInt8} (K:Bk w g t [v]) (h:By w 0 w.heap.size v l):M6 w w.heap.size (.slice (some ⟨g,0,none⟩) 1 1) [l]:=
 K.parts (vs:=[v]) (ls:=[l]) rfl (by simp[maxLen]) fun i x m hx hm=>by
  match i with
  | 0=>simp at hx hm;subst hx hm;exact h
  | i+1=>simp at hx
def A3j (ls:List (List UInt8)):List UInt8:=Yz ls.flatten
@[simp, go_sem] theorem Pk (ls : List (List UInt8)) : (A3j ls).length = 64 := Vg _
def B6t (ls:List (List UInt8)):List UInt64:=A0b ls.flatten
@[simp, go_sem] theorem Ge (ls : List (List UInt8)) : (B6t ls).length = 4 := A0y _
theorem B4l (vp:Value) (ls:List (List UInt8)) (w:World) (hp:M6 w w.heap.size vp ls) (hsz:ls.flatten.length≤1099511627776):Calls Tryz.prog 156 #[vp] w fun e w'=>e=.returned (H7 (B6t ls))∧Below w.heap.size w w':=B9p vp ls w hp hsz
def b64 (l:List UInt8):Value:=.agg (c8 [g8 l 0]++(c8 ((l.drop 1).take 30)++(c8 [g8 l 31]++c8 (l.drop 32)))).toArray
theorem C2n {l:List UInt8} (hl:l.length=64):A8 l=b64 l:=by
 have h1:l=[g8 l 0]++((l.drop 1).take 30++([g8 l 31]++l.drop 32)):=by
  apply List.ext_getElem?;intro i;rcases Nat.lt_or_ge i 64 with h | h
  ·have:i=0∨(1≤i∧i<31)∨i=31∨32≤i:=by omega
   rcases this with rfl | ⟨h2,h3⟩ | rfl | h2
   ·simp[g8,List.getD_eq_getElem?_getD,hl]
   ·rw[List.getElem?_append_right (by simpa using h2),List.getElem?_append_left (by simp;omega)];simp[List.getElem?_take,List.getElem?_drop];rw[if_pos (by omega)];congr 1;omega
   ·rw[List.getElem?_append_right (by simp),List.getElem?_append_right (by simp;omega)];simp[g8,List.getD_eq_getElem?_getD,hl]
   ·rw[List.getElem?_append_right (by simp;omega),List.getElem?_append_right (by simp;omega),List.getElem?_append_right (by simp;omega)];simp[List.getElem?_drop,hl];congr 1;omega
  ·rw[List.getElem?_eq_none (by omega),List.getElem?_eq_none (by simp;omega)]
 unfold A8 b64;conv=>lhs;rw[h1]
 simp[c8]
def gS:Cfg:=⟨fun t=>if t=67 then some [1,30,1,32] else none,fun _=>none,noF⟩
def D5t (l:List UInt8) (b:Nat):Value:=.tuple #[.agg (c8 [g8 l 0 &&& 248]++(c8 ((l.drop 1).take 30)++c8 [g8 l 31 &&& 127 ||| 64])).toArray,.slice (some ⟨b,32,none⟩) 32 32]
set_option maxRecDepth 100000
theorem B3w (seed:List UInt8) (hs:seed.length=32) (w:World):Calls Tryz.prog 98 #[A8 seed] w fun e w'=>∃g,e=.returned (D5t (A3j [seed]) g)∧Below w.heap.size w w'∧w.heap.size≤g∧∀W,B3d w w' W→Bk W g 67 (c8 (A3j [seed])):=by
 let L:=A3j [seed]
 have hL:L.length=64:=Pk [seed];have aA:((L.drop 1).take 30).length=30:=by simp[hL]
 have aB:(L.drop 32).length=32:=by simp[hL]
 let ds:DL w:=[⟨.call 142 (fun μ=>#[.slice (some ⟨(μ 4).b,0,none⟩) 1 1]) (fun _=>b64 L) none (fun μ W=>Bk W (μ 4).b 38 [.slice (some ⟨(μ 0).b,0,none⟩) 32 32]∧Bk W (μ 0).b 40 (c8 seed)∧True),
  fun μ W _ ⟨h4,h0,_⟩=>by rw[←C2n hL];exact A2f _ [seed] W (h4.parts1 (h0.byAll hs (by decide))) (by simp[hs]),[Km [g8 L 0] 1 rfl,Km ((L.drop 1).take 30) 30 aA,Km [g8 L 31] 1 rfl,Km (L.drop 32) 32 aB]⟩,
  C4o (g8 L 0) 248,C4o (g8 L 31) 127,dOr (g8 L 31 &&& 127) 64]
 have h:=C7w (g:=gS) (v:=fun μ=>D5t L (μ 6).b) (q:=fun lo μ W=>(Bk W (μ 6).b 67 (c8 [g8 L 0]++(c8 ((L.drop 1).take 30)++(c8 [g8 L 31]++c8 (L.drop 32))))∧lo≤(μ 6).b)∧True) (nf:=true) (args:=#[A8 seed]) 60 [Km seed 32 hs] ds E7 Tryz.func98 (by kernel_rfl);refine h.mono fun e w' ⟨μ,h1,h2,h3⟩=>⟨(μ 6).b,h1,h2,(h3 w' ⟨Nat.le_refl _,fun _ _ _=>rfl⟩ (.inl rfl)).1.2,fun W hW=>?_⟩;have h4:=(h3 W hW (.inl rfl)).1.1;have h5:c8 (A3j [seed])=c8 [g8 L 0]++(c8 ((L.drop 1).take 30)++(c8 [g8 L 31]++c8 (L.drop 32))):=List.toArray_inj (Value.agg.inj (C2n hL));rw[h5];exact h4
def Kh (seed:List UInt8):List UInt8:=(g8 (A3j [seed]) 0 &&& 248)::(((A3j [seed]).drop 1).take 30++[g8 (A3j [seed]) 31 &&& 127 ||| 64])
@[simp, go_sem] theorem Gi (seed : List UInt8) : (Kh seed).length = 32 := by simp [Kh, Pk]
theorem C1g (seed:List UInt8) (b:Nat):D5t (A3j [seed]) b=.tuple #[A8 (Kh seed),.slice (some ⟨b,32,none⟩) 32 32]:=by simp[D5t,Kh,A8,c8]
def gP:Cfg:=⟨Hc.cut,fun f=>if f=98 then some 1 else none,noF⟩
def E9u (seed:List UInt8) (hs:seed.length=32) (n:Nat) {w:World}:DC1 w:=
 ⟨.call 98 (fun _=>#[A8 seed]) (fun μ=>.tuple #[A8 (Kh seed),(μ n).v]) (some n) (fun _ _=>True),
  fun μ W _ _=>(B3w seed hs W).mono fun e w' ⟨g,h1,h2,_⟩=>⟨⟨0,.slice (some ⟨g,32,none⟩) 32 32,rfl⟩,by rw[h1,C1g];simp[Zp],h2,fun _ _ _ _=>trivial⟩,[Km (Kh seed) 32 (Gi seed),Zi jnk rfl]⟩
noncomputable def Cy (seed:List UInt8):List UInt8:=Gs (Uu Z1 (Kh seed))
@[simp, go_sem] theorem Iq (seed : List UInt8) : (Cy seed).length = 32 := Y9 _
theorem B8q (seed:List UInt8) (hs:seed.length=32) (w:World):Calls Tryz.prog 62 #[A8 seed] w fun e w'=>e=.returned (A8 (Cy seed))∧Below w.heap.size w w':=by
 have hm:∀W,Calls Tryz.prog 100 #[Z1.val,A8 (Kh seed)] W fun e W'=>e=.returned (Uu Z1 (Kh seed)).val∧Below W.heap.size W W':=fun W=>by
  have h:=B5p Z1 (Kh seed) Q7 (Gi seed) W;simp only[Pn.seg]at h;exact h
 exact E8 (g:=gP) 60 [Km seed 32 hs] [E9u seed hs 3,dP Xl Q7,dP hm (Ro Q7 _),dH (Vs (Uu Z1 (Kh seed)) (Ro Q7 _)) (Y9 _)] E7 Tryz.func62 (by kernel_rfl)
def B6r (seed:List UInt8):List UInt8:=(A3j [seed]).drop 32
@[simp, go_sem] theorem C7m (seed : List UInt8) : (B6r seed).length = 32 := by simp [B6r]
def Ri (a:List UInt8):List UInt64:=A1p (a++z8 32)
theorem Ob (a:List UInt8):(Ri a).length=4:=Hb _
theorem B6q (a:List UInt8) (ha:a.length=32) (w:World):Calls Tryz.prog 161 #[A8 a] w fun e w'=>e=.returned (H7 (Ri a))∧Below w.heap.size w w':=
 E8 (g:=Hc) 60 [Km a 32 ha] [dR (args:=#[.agg (c8 a++c8 (z8 32)).toArray]) 4 (fun W=>by rw[show Value.agg (c8 a++c8 (z8 32)).toArray=A8 (a++z8 32) by simp[A8,c8]];exact A4x (a++z8 32) (by simp[ha]) W) (Hb _)] E7 Tryz.func161 (by kernel_rfl)
end
section
noncomputable def sgR (seed:List UInt8) (ps:List (List UInt8)):List UInt64:=B6t (B6r seed::ps)
noncomputable def sgF (seed:List UInt8) (ps:List (List UInt8)):List UInt8:=Gs (Uu Z1 (Ew (sgR seed ps)))
noncomputable def sgK (seed:List UInt8) (ps:List (List UInt8)):List UInt64:=B6t (sgF seed ps::Cy seed::ps)
noncomputable def sgS (seed:List UInt8) (ps:List (List UInt8)):List UInt8:=Ew (C4l (sgR seed ps) (C4z (sgK seed ps) (Ri (Kh seed))))
noncomputable def A4z (seed:List UInt8) (ps:List (List UInt8)):List UInt8:=sgF seed ps++sgS seed ps
theorem A3g (seed:List UInt8) (ps:List (List UInt8)):(sgF seed ps).length=32:=Y9 _
theorem B7o (seed:List UInt8) (ps:List (List UInt8)):(sgS seed ps).length=32:=Ae _
theorem A9g (seed:List UInt8) (ps:List (List UInt8)):(A4z seed ps).length=64:=by simp[A4z,A3g,B7o]
theorem Bk.sl {w:World} {g:Nat} {t:TypeId} {vs:List Value} {n:Nat} (K:Bk w g t vs) (hl:vs.length=n) (hn:n≤maxLen):Sl w 0 w.heap.size (.slice (some ⟨g,0,none⟩) n n) vs:=
 ⟨some ⟨g,0,none⟩,n,by rw[hl],Nat.le_of_eq hl,hn,.inr ⟨g,0,rfl,Nat.zero_le _,K.lt,fun j u hj=>K.at_ (by simpa using hj)⟩⟩
theorem Sl.later {w w' W:World} {v:Value} {cs:List Value} (h:Sl w' w.heap.size w'.heap.size v cs) (hz:w'.heap.size≤W.heap.size) (he:∀k,w.heap.size≤k→k<w'.heap.size→W.heap[k]?=w'.heap[k]?):Sl W w.heap.size W.heap.size v cs:=by
 obtain⟨A,c,h1,h2,h3,h4⟩:=h;refine ⟨A,c,h1,h2,h3,?_⟩;rcases h4 with h | ⟨g,o,rfl,hl,hb,hc⟩
 ·exact .inl h
 ·refine .inr ⟨g,o,rfl,hl,Nat.lt_of_lt_of_le hb hz,fun j u hj=>?_⟩;have:=hc j u hj;rw[←this];unfold World.cell?;rw[he g hl hb]
section
variable {Φ : Fcts} {w : World}
def D1s (vp:Value) (vs:List Value) (b n k:Nat) (t:TypeId) (ms:(Nat→Nm)→List Value) (pre:(Nat→Nm)→World→Prop) (hs:Sl w 0 w.heap.size vp vs) (h1:∀u∈vs,u.oneCell'=true) (h0:0<vs.length) (hz:k+vs.length≤1000000) (hk:∀μ,(ms μ).length=k)
 (hp:∀μ W,pre μ W→Bk W (μ b).b t (ms μ)) (hf:∀μ x W,Sl W 0 W.heap.size x.v (ms μ++vs)→Φ.at n (Zp μ n x) W):DC Tryz.prog Φ (fun W=>Below w.heap.size w W):=
 ⟨.call 157 (fun μ=>#[vp,.slice (some ⟨(μ b).b,0,none⟩) k k]) (fun μ=>(μ n).v) (some n) pre,fun μ W hS hpre=>by
  have hk':=hk μ;subst hk';refine (C9v (μ b).b 0 _ vp (ms μ) vs W ((hp μ W hpre).sl rfl (by simp only[maxLen];omega)) ((hs.below hS).more hS.size) h1 h0 hz).mono fun e W' ⟨v,e1,e2,e3⟩=>?_;obtain⟨A,c,e4,_⟩:=id e2;exact ⟨⟨0,v,by rw[e4];rfl⟩,by rw[e1];simp[Zp],e3,fun W'' hz he hS'=>hf μ _ W'' ((e2.later hz he).less (Nat.zero_le _))⟩,[Zi jnk rfl]⟩
def E1a (ls:List (List UInt8)) (n:Nat) (pre:(Nat→Nm)→World→Prop) (hz:ls.flatten.length≤1099511627776) (hp:∀μ W,Below w.heap.size w W→pre μ W→M6 W W.heap.size (μ n).v ls):DC Tryz.prog Φ (fun W=>Below w.heap.size w W):=
 ⟨.call 156 (fun μ=>#[(μ n).v]) (fun _=>H7 (B6t ls)) none pre,fun μ W hS hpre=>B4l _ ls W (hp μ W hS hpre) hz,[Ca (B6t ls) 4 (Ge ls)]⟩
end
theorem D1i (seed:List UInt8) (hs:seed.length=32) (W:World):Calls Tryz.prog 100 #[Z1.val,A8 seed] W fun e W'=>e=.returned (Uu Z1 seed).val∧Below W.heap.size W W':=by
 have h:=B5p Z1 seed Q7 hs W;simp only[Pn.seg]at h;exact h
theorem Pw {w W:World} {v:Value} {ms vs:List Value} {ls ps:List (List UInt8)} (hl:vs.length=ps.length) (he:∀(i:Nat) (x:Value) (l:List UInt8),vs[i]?=some x→ps[i]?=some l→By w 0 w.heap.size x l) (hS:Below w.heap.size w W)
 (h:Sl W 0 W.heap.size v (ms++vs)) (hm:ms.length=ls.length) (h3:∀(i:Nat) (x:Value) (l:List UInt8),ms[i]?=some x→ls[i]?=some l→By W 0 W.heap.size x l):M6 W W.heap.size v (ls++ps):=
 M6.join hm hl h (Below.refl _ _) h3 fun i x l hx hl=>(he i x l hx hl).up hS
def F0t (L:List UInt8) (vs:List Value):Fcts:=⟨fun n=>if n=19 then [3] else if n=34 then [28,14] else [],fun n l W=>match n,l with
 | 3,[x]=>∃g,x.v=.slice (some ⟨g,32,none⟩) 32 32∧Bk W g 67 (c8 L)
 | 19,[x,y]=>Sl W 0 W.heap.size x.v ([y.v]++vs)
 | 34,[x,y,z]=>Sl W 0 W.heap.size x.v ([.slice (some ⟨y.b,0,none⟩) 32 32,.slice (some ⟨z.b,0,none⟩) 32 32]++vs)
 | _,_=>True⟩
def gSg (L:List UInt8) (vs:List Value):Cfg:=⟨Hc.cut,fun f=>if f=98 then some 1 else if f=157 then some 0 else none,F0t L vs⟩
theorem B0o {w:World} {x y:Value} {l m:List UInt8} (h1:By w 0 w.heap.size x l) (h2:By w 0 w.heap.size y m) (i:Nat) (z:Value) (k:List UInt8) (hz:[x,y][i]?=some z) (hk:[l,m][i]?=some k):By w 0 w.heap.size z k:=by
 match i with
 | 0=>simp at hz hk;subst hz hk;exact h1
 | 1=>simp at hz hk;subst hz hk;exact h2
 | i+2=>simp at hz
theorem C3g {w:World} {x:Value} {l:List UInt8} (h1:By w 0 w.heap.size x l) (i:Nat) (z:Value) (k:List UInt8) (hz:[x][i]?=some z) (hk:[l][i]?=some k):By w 0 w.heap.size z k:=by
 match i with
 | 0=>simp at hz hk;subst hz hk;exact h1
 | i+1=>simp at hz
set_option maxRecDepth 100000
theorem D0q (seed:List UInt8) (vp:Value) (ps:List (List UInt8)) (hs:seed.length=32) (w:World) (hp:M6 w w.heap.size vp ps) (hp0:0<ps.length) (hpl:ps.length≤1000) (hpf:ps.flatten.length≤1000000000):Calls Tryz.prog 102 #[A8 seed,vp] w fun e w'=>e=.returned (A8 (A4z seed ps))∧Below w.heap.size w w':=by
 obtain⟨vs,hv,hl,he⟩:=hp;have h1:=M6.one_cells hl he;have aC:vp.oneCell'=true:=by obtain⟨A,c,rfl,_⟩:=hv;rfl
 let L:=A3j [seed]
 have hL:L.length=64:=Pk _;have hF:=A3g seed ps;have hP:=Iq seed;have aA:A8 (A4z seed ps)=.agg (c8 (sgF seed ps)++c8 (sgS seed ps)).toArray:=by simp[A4z,A8,c8]
 rw[aA];have aB:∀μ W,Below w.heap.size w W→(gSg L vs).f.at 3 μ W→By W 0 W.heap.size (μ 3).v (B6r seed):=fun μ W _ ⟨g,e,K⟩=>by
  have e':(μ 3).v=.slice (some ⟨g,32,none⟩) 32 32:=e;rw[e'];exact K.by 32 32 32 (by omega) (Nat.le_refl _) (by decide) (by simp[B6r,L,List.take_of_length_le])
 let ds:List (DC Tryz.prog (gSg L vs).f (fun W=>Below w.heap.size w W)):=[
  ⟨.call 98 (fun _=>#[A8 seed]) (fun μ=>.tuple #[A8 (Kh seed),(μ 3).v]) (some 3) (fun _ _=>True),
   fun μ W _ _=>(B3w seed hs W).mono fun e w' ⟨g,h1,h2,_,h3⟩=>⟨⟨0,.slice (some ⟨g,32,none⟩) 32 32,rfl⟩,by rw[h1,C1g];simp[Zp],h2,fun W hz he _=>⟨g,rfl,h3 W ⟨hz,he⟩⟩⟩,[Km (Kh seed) 32 (Gi seed),Zi jnk rfl]⟩,
  dP Xl Q7,dP (D1i (Kh seed) (Gi seed)) (Ro Q7 _),dH (Vs (Uu Z1 (Kh seed)) (Ro Q7 _)) (Y9 _),
  D1s vp vs 18 19 1 38 (fun μ=>[(μ 3).v]) (fun μ W=>Bk W (μ 18).b 38 [(μ 3).v]∧(gSg L vs).f.at 3 μ W∧True) hv h1 (by omega) (by omega) (fun _=>rfl) (fun _ _ h=>h.1) (fun _ _ _ h=>h),
  E1a (B6r seed::ps) 19 (fun μ W=>(gSg L vs).f.at 19 μ W∧(gSg L vs).f.at 3 μ W∧True) (by rw[List.flatten_cons,List.length_append,C7m];omega) (fun μ W hS ⟨h19,h3,_⟩=>Pw (ms:=[(μ 3).v]) (ls:=[B6r seed]) hl he hS h19 rfl (C3g (aB μ W hS h3))),
  dP Xl Q7,dH (Rn (sgR seed ps) (Ge _)) (Ae _),dP (D1i (Ew (sgR seed ps)) (Ae _)) (Ro Q7 _),dH (Vs (Uu Z1 (Ew (sgR seed ps))) (Ro Q7 _)) (Y9 _),
  D1s vp vs 33 34 2 38 (fun μ=>[.slice (some ⟨(μ 28).b,0,none⟩) 32 32,.slice (some ⟨(μ 14).b,0,none⟩) 32 32]) (fun μ W=>Bk W (μ 33).b 38 [.slice (some ⟨(μ 28).b,0,none⟩) 32 32,.slice (some ⟨(μ 14).b,0,none⟩) 32 32]∧Bk W (μ 28).b 40 (c8 (sgF seed ps))∧Bk W (μ 14).b 40 (c8 (Cy seed))∧True) hv h1 (by omega) (by omega) (fun _=>rfl) (fun _ _ h=>h.1) (fun _ _ _ h=>h),
  E1a (sgF seed ps::Cy seed::ps) 34 (fun μ W=>Bk W (μ 28).b 40 (c8 (sgF seed ps))∧Bk W (μ 14).b 40 (c8 (Cy seed))∧(gSg L vs).f.at 34 μ W∧True) (by rw[List.flatten_cons,List.length_append,List.flatten_cons,List.length_append,hF,hP];omega) (fun μ W hS ⟨h28,h14,h34,_⟩=>Pw (ms:=[.slice (some ⟨(μ 28).b,0,none⟩) 32 32,.slice (some ⟨(μ 14).b,0,none⟩) 32 32]) (ls:=[sgF seed ps,Cy seed]) hl he hS h34 rfl (B0o (h28.byAll hF (by decide)) (h14.byAll hP (by decide)))),
  dR 4 (B6q (Kh seed) (Gi seed)) (Ob _),dR 4 (C9u (sgK seed ps) (Ri (Kh seed)) (Ge _) (Ob _)) (Yp _ _),dR 4 (D1r (sgR seed ps) (C4z (sgK seed ps) (Ri (Kh seed))) (Ge _) (Yp _ _)) (Yx _ _),dH (Rn (C4l (sgR seed ps) (C4z (sgK seed ps) (Ri (Kh seed)))) (Yx _ _)) (Ae _)]
 exact E8 (g:=gSg L vs) 80 [Km seed 32 hs,Zi vp aC] ds E7 Tryz.func102 (by kernel_rfl)
end
section
noncomputable def vfK (key sig:List UInt8) (ps:List (List UInt8)):List UInt64:=B6t (E1 sig 0::key::ps)
noncomputable def vfH (key sig:List UInt8) (ps:List (List UInt8)):List UInt8:=Gs (B1i (Ew (Kx (E1 sig 32))) (B9t (Fs key)) (Ew (vfK key sig ps)))
noncomputable def Ft (key sig:List UInt8) (ps:List (List UInt8)):Bool:=Gu key&&(!Xi (Fs key)&&(Qm (E1 sig 32)&&vfH key sig ps==E1 sig 0))
theorem D4p {key:List UInt8} (h:Gu key=false):Ql key=50:=(Zx h).2
theorem D0s {key:List UInt8} (h:Gu key=true):Ql key=0:=if_pos h
theorem D9x {key sig:List UInt8} {ps:List (List UInt8)} (h:Gu key=false):Ft key sig ps=false:=by unfold Ft;rw[h,Bool.false_and]
theorem D9f {key sig:List UInt8} {ps:List (List UInt8)} (h:Xi (Fs key)=true):Ft key sig ps=false:=by unfold Ft;rw[h];simp
theorem D8v {key sig:List UInt8} {ps:List (List UInt8)} (h:Qm (E1 sig 32)=false):Ft key sig ps=false:=by unfold Ft;rw[h];simp
theorem D8y {key sig:List UInt8} {ps:List (List UInt8)} (h1:Gu key=true) (h2:Xi (Fs key)=false) (h3:Qm (E1 sig 32)=true):Ft key sig ps=(vfH key sig ps==E1 sig 0):=by unfold Ft;rw[h1,h2,h3,Bool.not_false,Bool.true_and,Bool.true_and,Bool.true_and]
theorem B9f (key sig:List UInt8) (ps:List (List UInt8)):(vfH key sig ps).length=32:=Y9 _
def gVf (vs:List Value):Cfg:=⟨fun t=>if t=67 then some [32,32] else Hc.cut t,fun f=>if f=157 then some 0 else none,⟨fun n=>if n=33 then [1,0] else [],fun n l W=>match n,l with
 | 33,[x,y,z]=>Sl W 0 W.heap.size x.v ([.slice (some ⟨y.b,0,none⟩) 32 64,.slice (some ⟨z.b,0,none⟩) 32 32]++vs)
 | _,_=>True⟩⟩
set_option maxRecDepth 100000
theorem C5k {sig:List UInt8} (hg:sig.length=64):A8 sig=.agg (c8 (E1 sig 0)++c8 (E1 sig 32)).toArray:=by
 conv=>lhs;rw[←List.take_append_drop 32 sig]
 simp[A8,c8,E1,List.take_of_length_le,hg]
theorem B7k (key sig:List UInt8) (vp:Value) (ps:List (List UInt8)) (hk:key.length=32) (hg:sig.length=64) (w:World) (hp:M6 w w.heap.size vp ps) (hp0:0<ps.length) (hpl:ps.length≤1000) (hpf:ps.flatten.length≤1000000000):Calls Tryz.prog 104 #[A8 key,A8 sig,vp] w fun e w'=>e=.returned (.bool (Ft key sig ps))∧Below w.heap.size w w':=by
 obtain⟨vs,hv,hl,he⟩:=hp;have h1:=M6.one_cells hl he;have aB:vp.oneCell'=true:=by obtain⟨A,c,rfl,_⟩:=hv;rfl
 have hr:=A7w hg 0 (by decide);have hs:=A7w hg 32 (by decide);have aC:=C5k hg;rw[aC];let ρ:List Av:=[Km key 32 hk,Km (E1 sig 0) 32 hr,Km (E1 sig 32) 32 hs,Zi vp aB]
 let dDec:DC Tryz.prog (gVf vs).f (fun W=>Below w.heap.size w W):=⟨.call 162 (fun _=>#[A8 key]) (fun _=>.tuple #[(Fs key).val,.int .i64 (Ql key)]) none (fun _ _=>True),fun _ W _ _=>by have h:=B6j key hk W;simp only[Pn.seg]at h;exact h,(Fs key).av (Vb key)++[Zi (.int .i64 (Ql key)) rfl]⟩
 let dNeE (b:Bool) (hb:∀W,(binOp .neq 42 (.int .i64 (Ql key)) (.int .i64 0)).run Tryz.prog W=.ok (.bool b) W):DC Tryz.prog (gVf vs).f (fun W=>Below w.heap.size w W):=Vx (op:=.neq) (t:=42) (x:=.int .i64 (Ql key)) (y:=.int .i64 0) (v:=.bool b) (fun X Y W=>by simp only[Sem.run_bind,show (eqGuard .neq 42 X Y (.int .i64 (Ql key)) (.int .i64 0)).run Tryz.prog W=.ok () W from rfl,Result.andThen_ok,hb W]) rfl
 cases hd:Gu key with
 | false=>
  rw[D9x hd];exact E8 (g:=gVf vs) 80 ρ [dDec,dNeE true fun W=>by rw[D4p hd];rfl] E7 Tryz.func104 (by kernel_rfl)
 | true=>
  let dN:=dNeE false fun W=>by rw[D0s hd];rfl
  have aA:∀W,Calls Tryz.prog 163 #[(Fs key).val] W fun e W'=>e=.returned (.bool (Xi (Fs key)))∧Below W.heap.size W W':=fun W=>by have h:=B7r (Fs key) (Vb key) W;simp only[Pn.seg]at h;exact h
  cases hm:Xi (Fs key) with
  | true=>
   rw[D9f hm];rw[hm]at aA;exact E8 (g:=gVf vs) 80 ρ [dDec,dN,dB aA] E7 Tryz.func104 (by kernel_rfl)
  | false=>
   rw[hm]at aA;let dNew (b:Bool) (hb:Qm (E1 sig 32)=b):DC Tryz.prog (gVf vs).f (fun W=>Below w.heap.size w W):=⟨.call 164 (fun _=>#[A8 (E1 sig 32)]) (fun _=>.tuple #[H7 (Kx (E1 sig 32)),.bool b]) none (fun _ _=>True),fun _ W _ _=>by rw[←hb];exact D2g (E1 sig 32) hs W,[Ca (Kx (E1 sig 32)) 4 (Vv _),Zi (.bool b) rfl]⟩
   cases hn:Qm (E1 sig 32) with
   | false=>
    rw[D8v hn];exact E8 (g:=gVf vs) 80 ρ [dDec,dN,dB aA,dNew false hn] E7 Tryz.func104 (by kernel_rfl)
   | true=>
    rw[D8y hd hm hn];have aD:∀W,Calls Tryz.prog 165 #[A8 (Ew (Kx (E1 sig 32))),(B9t (Fs key)).val,A8 (Ew (vfK key sig ps))] W fun e W'=>e=.returned (B1i (Ew (Kx (E1 sig 32))) (B9t (Fs key)) (Ew (vfK key sig ps))).val∧Below W.heap.size W W':=fun W=>by have h:=D1g (Ew (Kx (E1 sig 32))) (B9t (Fs key)) (Ew (vfK key sig ps)) (Ae _) (C1t (Vb key)) (Ae _) W;simp only[Pn.seg]at h;exact h
    exact E8 (g:=gVf vs) 80 ρ [dDec,dN,dB aA,dNew true hn,
     D1s vp vs 32 33 2 38 (fun μ=>[.slice (some ⟨(μ 1).b,0,none⟩) 32 64,.slice (some ⟨(μ 0).b,0,none⟩) 32 32]) (fun μ W=>Bk W (μ 32).b 38 [.slice (some ⟨(μ 1).b,0,none⟩) 32 64,.slice (some ⟨(μ 0).b,0,none⟩) 32 32]∧Bk W (μ 1).b 67 (c8 (E1 sig 0)++c8 (E1 sig 32))∧Bk W (μ 0).b 40 (c8 key)∧True) hv h1 (by omega) (by omega) (fun _=>rfl) (fun _ _ h=>h.1) (fun _ _ _ h=>h),
     E1a (E1 sig 0::key::ps) 33 (fun μ W=>Bk W (μ 1).b 67 (c8 (E1 sig 0)++c8 (E1 sig 32))∧Bk W (μ 0).b 40 (c8 key)∧(gVf vs).f.at 33 μ W∧True) (by rw[List.flatten_cons,List.length_append,List.flatten_cons,List.length_append,hr,hk];omega) (fun μ W hS ⟨h28,h14,h34,_⟩=>Pw (ms:=[.slice (some ⟨(μ 1).b,0,none⟩) 32 64,.slice (some ⟨(μ 0).b,0,none⟩) 32 32]) (ls:=[E1 sig 0,key]) hl he hS h34 rfl (B0o (Bk.by (l:=E1 sig 0++E1 sig 32) (by simpa [c8] using h28) 0 32 64 (by simp[hr]) (by decide) (by decide) (by simp[hr])) (h14.byAll hk (by decide)))),
     dH (Rn (Kx (E1 sig 32)) (Vv _)) (Ae _),dP (E2p (Fs key) (Vb key)) (C1t (Vb key)),dH (Rn (vfK key sig ps) (Ge _)) (Ae _),dP aD (B4m _ _ _),dH (Vs (B1i (Ew (Kx (E1 sig 32))) (B9t (Fs key)) (Ew (vfK key sig ps))) (B4m _ _ _)) (Y9 _),
     dEq (vfH key sig ps) (E1 sig 0) (B9f key sig ps) hr rfl] E7 Tryz.func104 (by kernel_rfl)
end
theorem B6v (w:World):Calls Tryz.prog 72 #[.slice none 0 0] w fun e w'=>e=.returned (.slice none 0 0)∧w=w':=by
 have aA:∀(w:World) (a:Option Addr) (n c n' c':Nat),(binOp .eql 38 (.slice a n c) (.slice none n' c')).run Tryz.prog w=.ok (.bool a.isNone) w:=fun w a n c n' c'=>Lib.run_eql_slice_nil w _ _ a n c n' c' Tryz.underlying38;go_enter Tryz.func72,Tryz.ntmps72;go_wp2;go_ret;exact ⟨rfl,rfl⟩
theorem A3t (v:Value) (l:List UInt8) (w:World) (hv:By w 0 w.heap.size v l) (hne:0<l.length) (hn:l.length≤1099511627776) :
 Calls Tryz.prog 72 #[v] w fun e w'=>∃u,e=.returned u∧J0 w' w.heap.size u l∧Below w.heap.size w w':=by
 obtain⟨g,o,c,rfl,h1,h2,_,_,_⟩:=hv.row hne;have aA:=Lib.hid (hv.alloc (Nat.le_refl _) (.cells #[] 5));clear hv;have aD:∀(w:World) (a:Option Addr) (n c n' c':Nat),(binOp .eql 38 (.slice a n c) (.slice none n' c')).run Tryz.prog w=.ok (.bool a.isNone) w:=fun w a n c n' c'=>Lib.run_eql_slice_nil w _ _ a n c n' c' Tryz.underlying38;have ho:Hid (J0 (w.alloc (.cells #[] 5)) w.heap.size (.slice (some ⟨w.heap.size,0,none⟩) 0 0) []):=Lib.hid (World.ownsRow_made w #[] 0 (Nat.le_refl _) (Nat.zero_le _) (by simp));go_enter Tryz.func72,Tryz.ntmps72;go_wp2_with (at_builtin;refine Vm _ w.heap.size _ [] rfl _ _ rfl rfl ho.out _ rfl l 0 _ aA.out (by simp;omega) (by simp) ?_;intro A2 c2 w2 aE aF aB aC aG aH);go_ret;exact ⟨_,rfl,by simpa using aB,(U7 _ _).trans aC⟩
theorem C3n (v:UInt64) (m:Nat) (hm:m<8):(J8 v).take m++[(v >>> UInt64.ofNat (56-8*m)).toUInt8]=(J8 v).take (m+1):=by
 match m,hm with
 | 0,_=>rfl
 | 1,_=>rfl
 | 2,_=>rfl
 | 3,_=>rfl
 | 4,_=>rfl
 | 5,_=>rfl
 | 6,_=>rfl
 | 7,_=>
  show [(v >>> 56).toUInt8,(v >>> 48).toUInt8,(v >>> 40).toUInt8,(v >>> 32).toUInt8,(v >>> 24).toUInt8,(v >>> 16).toUInt8,(v >>> 8).toUInt8]++[(v >>> UInt64.ofNat 0).toUInt8]=J8 v;have:v >>> UInt64.ofNat 0=v:=by
   apply UInt64.toNat_inj.1;rw[UInt64.toNat_shiftRight];simp
  rw[this];rfl
@[simp] theorem Q9 (v : UInt64) : (J8 v).length = 8 := rfl
def B6e (w:World) (bv:Value) (l:List UInt8):Prop:=(bv=.slice none 0 0∧l=[])∨(By w 0 w.heap.size bv l∧0<l.length∧l.length≤1099511627776)
theorem B2z (bv:Value) (l:List UInt8) (w:World) (h:B6e w bv l):Calls Tryz.prog 72 #[bv] w fun e w'=>∃u,e=.returned u∧J0 w' w.heap.size u l∧Below w.heap.size w w':=by
 rcases h with ⟨rfl,rfl⟩ | ⟨h1,h2,h3⟩
 ·refine (B6v w).mono ?_;rintro e w' ⟨rfl,rfl⟩;exact ⟨_,rfl,J0.nil _ _,Below.refl _ _⟩
 ·exact A3t bv l w h1 h2 h3
theorem Cu (bv:Value) (l:List UInt8) (v:UInt64) (w:World) (h:B6e w bv l) (hl:l.length≤1099511627776) :
 Calls Tryz.prog 32 #[bv,.int .u64 (E6 v)] w fun e w'=>∃u,e=.returned u∧J0 w' w.heap.size u (l++J8 v)∧Below w.heap.size w w':=by
 have H:=Lib.hid h;clear h;go_enter Tryz.func32,Tryz.ntmps32;go_wp2_with fail;refine (B2z bv l w H.out).mono ?_;rintro e w1 ⟨u,rfl,O1,b1⟩;have aC:J0 w1 w.heap.size u (l++(J8 v).take 0):=by simpa using O1
 have O1:=Lib.hid aC;clear aC;go_wp2_with fail;go_loopw [5,6] (fun s x wr=>∃m:Nat,m≤8∧x=.int .i64 (56-8*(m:Int))∧J0 wr w.heap.size s (l++(J8 v).take m)∧Below w.heap.size w wr) (fun _ x _=>(intOf x+8).toNat)
 case atStart=>exact ⟨0,by omega,rfl,O1.out,b1⟩
 case round=>
  clear O1 b1;obtain⟨m,hm,rfl,O,B⟩:=hrel;by_cases hlt:m<8
  ·obtain⟨s,hs⟩:=D9 (56-8*m);have es:56-8*(m:Int)=(s:Int):=by omega
   have aD:s<64:=by omega
   have hd:decide (0≤(s:Int))=true:=decide_eq_true (by omega);rw[es];have HS:Hid ((J8 v).take m++[(v >>> UInt64.ofNat s).toUInt8]=(J8 v).take (m+1)):=Lib.hid (by rw[hs];exact C3n v m hlt);have ES:=Lib.hid es;have aB:(l++(J8 v).take m).length≤2199023255552:=by simp;omega
   clear hs es;obtain⟨L,hL⟩:=D9 (l++(J8 v).take m);have HL:Hid (L++[(v >>> UInt64.ofNat s).toUInt8]=l++(J8 v).take (m+1)):=Lib.hid (by rw[hL,List.append_assoc,HS.out]);rw[←hL]at O aB;clear hL HS;have O':=Lib.hid O;clear O;go_wp2_with (at_builtin;refine Hx _ w.heap.size _ L rfl _ _ rfl rfl O'.out _ _ rfl rfl (by omega) B.size ?_;intro A2 c2 w7 aG aH aE aF;generalize (L++[(v >>> UInt64.ofNat s).toUInt8]).length=L7 at *);go_roundw;case rel=>exact ⟨m+1,by omega,by rw[←ES.out];all_goals (simp<;>omega),by rw[←HL.out];exact aE,B.trans aF⟩
   case measure=>have:=ES.out;simp[intOf]<;>omega
  ·obtain rfl:m=8:=by omega
   have aA:(J8 v).take 8=J8 v:=rfl;rw[aA]at O;have O':=Lib.hid O;clear O aA;go_wp2_with fail;go_ret;exact ⟨_,rfl,O'.out,B⟩
theorem J0.up {w:World} {base:Nat} {v:Value} {l:List UInt8} (h:J0 w base v l):By w 0 w.heap.size v l:=By.less h.by_ (Nat.zero_le _)
def A4v (l x:List UInt8):List UInt8:=l++J8 (UInt64.ofNat x.length)++x
theorem Fz (l x:List UInt8):(A4v l x).length=l.length+8+x.length:=by simp[A4v];omega
theorem Uo (bv xv:Value) (l x:List UInt8) (w:World) (h:B6e w bv l) (hx:By w 0 w.heap.size xv x) (hl:l.length≤1099511627) (hxl:x.length≤1099511627776) :
 Calls Tryz.prog 33 #[bv,xv] w fun e w'=>∃u,e=.returned u∧J0 w' w.heap.size u (A4v l x)∧Below w.heap.size w w':=by
 obtain⟨A,c,rfl,h2,h3,_⟩:=hx.open_;have hw:IntKind.u64.wrap (x.length:Int)=E6 (UInt64.ofNat x.length):=by
  rw[Ep];unfold E6;simp
 have H:=Lib.hid h;have HX:=Lib.hid hx;have HE:Hid (A4v l x=(l++J8 (UInt64.ofNat x.length))++x):=Lib.hid rfl;obtain⟨n,hn⟩:=D9 (x.length);rw[←hn]at hw HE h2 hxl HX ⊢;have HN:=Lib.hid hn;clear h hx hn;go_enter Tryz.func33,Tryz.ntmps33;go_wp2_with fail;refine (Cu bv l (UInt64.ofNat n) w H.out (by omega)).mono ?_;rintro e w1 ⟨u,rfl,O1,b1⟩;have aC:=Lib.hid O1;have aD:=Lib.hid (By.up HX.out b1);have aA:(l++J8 (UInt64.ofNat n)).length≤1099511628000:=by simp;omega
 obtain⟨L,hL⟩:=D9 (l++J8 (UInt64.ofNat n));rw[←hL]at HE aA;have O2:Hid (J0 w1 w.heap.size u L):=Lib.hid (by rw[hL];exact O1);clear O1 aC hL hw;go_wp2_with (at_builtin;refine Vm _ w.heap.size _ L rfl _ _ rfl rfl O2.out _ rfl x 0 _ aD.out (by rw[←HN.out];omega) b1.size ?_;intro A2 c2 w2 aF aG aB aE aH aI);go_ret;rw[List.length_append]at aB;exact ⟨_,rfl,by rw[HE.out];exact aB,b1.trans aE⟩
theorem A5g (v:Value) (ls:List (List UInt8)) (w:World) (hp:M6 w w.heap.size v ls) (hsz:ls.flatten.length≤17592186044416) :
 Calls Tryz.prog 75 #[v] w fun e w'=>∃u,e=.returned u∧J0 w' w.heap.size u ls.flatten∧Below w.heap.size w w':=by
 have H:=Lib.hid hp;clear hp;go_enter Tryz.func75,Tryz.ntmps75;go_wp2_with fail;refine (Tu v ls w H.out hsz).mono ?_;rintro e w1 ⟨u,rfl,O1,b1⟩;have O:=Lib.hid O1;clear O1;go_wp2_with fail;go_ret;exact ⟨_,rfl,O.out,b1⟩
def Fh:List UInt8:=[119,105,116,97,110]
def Np (tag:UInt8) (body:List UInt8):List UInt8:=A4v (Fh++[tag]) body
theorem A8h (tag:UInt8) (body:List UInt8):(Np tag body).length=14+body.length:=by unfold Np;rw[Fz];simp[Fh]
theorem B0q:(Fh.map v8).toArray=#[.int .u8 119,.int .u8 105,.int .u8 116,.int .u8 97,.int .u8 110]:=by kernel_rfl
theorem B5l (tag:UInt8) (xv:Value) (x:List UInt8) (w:World) (hx:By w 0 w.heap.size xv x) (hxl:x.length≤1099511627776) :
 Calls Tryz.prog 103 #[.int .u8 (n8 tag),xv] w fun e w'=>∃u,e=.returned u∧J0 w' w.heap.size u (Np tag x)∧Below w.heap.size w w':=by
 obtain⟨C,hC⟩:∃C:Array Value,C=#[.int .u8 119,.int .u8 105,.int .u8 116,.int .u8 97,.int .u8 110]:=⟨_,rfl⟩;have aG:C.toList=Fh.map v8:=by rw[hC,←B0q]
 have aA:=Go.Lib.run_convert_bytes_const (P:=Tryz.prog) w 38 5 C 5 5 Tryz.underlying38 Tryz.underlying5;have aO:(convert 38 38 (.slice (some ⟨w.heap.size,0,none⟩) 5 5)).run Tryz.prog (w.alloc (.cells #[.int .u8 119,.int .u8 105,.int .u8 116,.int .u8 97,.int .u8 110] 5))=.ok (.slice (some ⟨w.heap.size,0,none⟩) 5 5) (w.alloc (.cells #[.int .u8 119,.int .u8 105,.int .u8 116,.int .u8 97,.int .u8 110] 5 (5,6))):=by rw[hC]at aA;exact aA
 have aH:Below w.heap.size w ((w.alloc (.cells #[.int .u8 119,.int .u8 105,.int .u8 116,.int .u8 97,.int .u8 110] 5 (5,6))).alloc (.cells #[.int .u8 (n8 tag)] 5)):=(U7 _ _).alloc (by simp) _;have aB:∀j u,(Fh.map v8)[j]?=some u→((w.alloc (.cells #[.int .u8 119,.int .u8 105,.int .u8 116,.int .u8 97,.int .u8 110] 5 (5,6))).alloc (.cells #[.int .u8 (n8 tag)] 5)).cell? ⟨w.heap.size,j,none⟩=some u:=fun j u hj=>by
  refine Go.Lib.cell?_alloc_marked _ ?_;rw[cell_of_row _ w.heap.size j #[.int .u8 119,.int .u8 105,.int .u8 116,.int .u8 97,.int .u8 110] 5 (5,6) (heap_alloc_new w _),←hC,←Array.getElem?_toList,aG];exact hj
 have aC:∀j u,([v8 tag]:List Value)[j]?=some u→((w.alloc (.cells #[.int .u8 119,.int .u8 105,.int .u8 116,.int .u8 97,.int .u8 110] 5 (5,6))).alloc (.cells #[.int .u8 (n8 tag)] 5)).cell? ⟨w.heap.size+1,j,none⟩=some u:=fun j u hj=>by
  have h1:=cell_of_row _ (w.alloc (.cells #[.int .u8 119,.int .u8 105,.int .u8 116,.int .u8 97,.int .u8 110] 5 (5,6))).heap.size j #[.int .u8 (n8 tag)] 5 (0,0) (heap_alloc_new (w.alloc (.cells #[.int .u8 119,.int .u8 105,.int .u8 116,.int .u8 97,.int .u8 110] 5 (5,6))) (.cells #[.int .u8 (n8 tag)] 5));have e:(w.alloc (.cells #[.int .u8 119,.int .u8 105,.int .u8 116,.int .u8 97,.int .u8 110] 5 (5,6))).heap.size=w.heap.size+1:=by simp
  rw[e]at h1;rw[h1];simpa [v8] using hj
 obtain⟨i0,aI,aJ,aK,aL⟩:=info_parts C1q;have K1:Hid (some (⟨w.heap.size,0,none⟩:Addr)=none→(5:Nat)=0∧(5:Nat)=0):=Lib.hid (fun h=>by cases h);have K2:Hid ((Fh.map v8).length=5*1):=Lib.hid (by decide);have K3:Hid (∀b:Addr,some (⟨w.heap.size,0,none⟩:Addr)=some b→∀j u,(Fh.map v8)[j]?=some u→((w.alloc (.cells #[.int .u8 119,.int .u8 105,.int .u8 116,.int .u8 97,.int .u8 110] 5 (5,6))).alloc (.cells #[.int .u8 (n8 tag)] 5)).cell? (b.add j)=some u):=Lib.hid (fun b hb j u hj=>by injection hb with hb;subst hb;rw[P9,Nat.zero_add];exact aB j u hj);have K5:Hid (∀j u,([v8 tag]:List Value)[j]?=some u→((w.alloc (.cells #[.int .u8 119,.int .u8 105,.int .u8 116,.int .u8 97,.int .u8 110] 5 (5,6))).alloc (.cells #[.int .u8 (n8 tag)] 5)).cell? ((⟨w.heap.size+1,0,none⟩:Addr).add j)=some u):=Lib.hid (fun j u hj=>by rw[P9,Nat.zero_add];exact aC j u hj);have K6:Hid (∀u∈([v8 tag]:List Value),u.oneCell'=true):=Lib.hid (by intro u hu;simp at hu;subst hu;rfl);have HX:=Lib.hid hx;have HI:=Lib.hid aI;have aP:=Lib.hid aJ;have aQ:=Lib.hid aK;have aR:=Lib.hid aL;have HB:=Lib.hid aH;clear hx aI aJ aK aL aB aC hC aG aA aH;go_enter Tryz.func103,Tryz.ntmps103
 go_wp2_with (at_builtin;refine wpList_append_grows _ rfl _ _ 38 rfl 5 i0 _ 1 1 Tryz.underlying38 HI.out aP.out aQ.out aR.out rfl (by decide) (some ⟨w.heap.size,0,none⟩) 5 5 (Fh.map v8) rfl K1.out K2.out K3.out ⟨w.heap.size+1,0,none⟩ 1 1 [v8 tag] rfl rfl K5.out K6.out (by decide) (by decide) (by decide) ?_;intro v' w2 aD aM);have aF:J0 w2 w.heap.size v' (Fh++[tag]):=by
  refine J0.less ?_ HB.out.size;exact aD
 have aE:Below w.heap.size w w2:=HB.out.trans ((Below.refl _ _).grown aM HB.out.size (fun k hk=>by cases hk));obtain⟨A2,c2,rfl,_,_⟩:=aF.form;have aN:Hid (Fh.length=5):=Lib.hid rfl;have HF:Hid (B6e w2 (.slice A2 (Fh++[tag]).length c2) (Fh++[tag])):=Lib.hid (.inr ⟨aF.up,by simp,by simp[aN.out]⟩);have aS:=Lib.hid (By.up HX.out aE);clear aF aD aM aO;go_wp2_with fail;refine (Uo _ _ (Fh++[tag]) x w2 HF.out aS.out (by simp[aN.out]) hxl).mono ?_;rintro e w3 ⟨u,rfl,O3,b3⟩;have aT:=Lib.hid O3;clear O3;go_wp2_with fail;go_ret;exact ⟨_,rfl,J0.less aT.out aE.size,aE.trans (b3.mono aE.size)⟩
section
theorem By.formE {w:World} {B:Nat} {v:Value} {l:List UInt8} (h:By w 0 B v l):∃A n c,v=.slice A n c:=by
 obtain⟨A,c,rfl,_⟩:=h.open_;exact ⟨_,_,_,rfl⟩
theorem D7h {tag:UInt8} {body:List UInt8} (h:body.length≤1000000):[Np tag body].flatten.length≤1000000000:=by simp[A8h];omega
noncomputable def Yf (seed:List UInt8) (tag:UInt8) (body:List UInt8):List UInt8:=A4z seed [Np tag body]
noncomputable def Qh (key:List UInt8) (tag:UInt8) (body sig:List UInt8):Bool:=Ft key sig [Np tag body]
@[simp, go_sem] theorem Mt (seed : List UInt8) (tag : UInt8) (body : List UInt8) : (Yf seed tag body).length = 64 := A9g _ _
def byF (lo:Nat) (f:Nat→Option (List UInt8)):Fcts:=⟨fun _=>[],fun n l W=>match f n,l with
 | some b,[x]=>By W lo W.heap.size x.v b
 | _,_=>True⟩
def gBy (lo:Nat) (cut:TypeId→Option (List Nat)) (dyn:FuncId→Bool) (f:Nat→Option (List UInt8)):Cfg:=⟨cut,fun g=>if dyn g then some 0 else none,byF lo f⟩
def C6t {Φ:Fcts} {w:World} {f:FuncId} (args:(Nat→Nm)→Array Value) (n:Nat) (l:List UInt8) (pre:(Nat→Nm)→World→Prop) (h:∀μ W,Below w.heap.size w W→pre μ W→Calls Tryz.prog f (args μ) W fun e W'=>∃u,e=.returned u∧By W' W.heap.size W'.heap.size u l∧Below W.heap.size W W')
 (hf:∀μ x W,By W w.heap.size W.heap.size x.v l→Φ.at n (Zp μ n x) W):DC Tryz.prog Φ (fun W=>Below w.heap.size w W):=
 ⟨.call f args (fun μ=>(μ n).v) (some n) pre,fun μ W hS hp=>(h μ W hS hp).mono fun e W' ⟨u,e1,e2,e3⟩=>by
  obtain⟨A,n,c,rfl⟩:=(By.less e2 (Nat.zero_le _)).formE;exact ⟨⟨0,_,rfl⟩,by rw[e1];simp[Zp],e3,fun W'' hz he _=>hf μ _ W'' ((Sl.later e2 hz he).less hS.size)⟩,[Zi jnk rfl]⟩
theorem J0.ret {f:FuncId} {args:Array Value} {w:World} {l:List UInt8} (h:Calls Tryz.prog f args w fun e w'=>∃u,e=.returned u∧J0 w' w.heap.size u l∧Below w.heap.size w w'):Calls Tryz.prog f args w fun e w'=>∃u,e=.returned u∧By w' w.heap.size w'.heap.size u l∧Below w.heap.size w w':=h.mono fun e w' ⟨u,h1,h2,h3⟩=>⟨u,h1,h2.by_,h3⟩
set_option maxRecDepth 100000
theorem By.one' {w:World} {B:Nat} {v:Value} {l:List UInt8} (h:By w 0 B v l):v.oneCell'=true:=by obtain⟨A,n,c,rfl⟩:=h.formE;rfl
theorem D0i (seed:List UInt8) (tag:UInt8) (bv:Value) (body:List UInt8) (hs:seed.length=32) (w:World) (hb:By w 0 w.heap.size bv body) (hbl:body.length≤1000000):Calls Tryz.prog 63 #[A8 seed,.int .u8 (n8 tag),bv] w fun e w'=>e=.returned (A8 (Yf seed tag body))∧Below w.heap.size w w':=
 let g:=gBy w.heap.size Hc.cut (fun f=>f==103) fun n=>if n=5 then some (Np tag body) else none
 E8 (g:=g) 60 [Km seed 32 hs,Zi (.int .u8 (n8 tag)) rfl,Zi bv hb.one'] [
  C6t (fun _=>#[.int .u8 (n8 tag),bv]) 5 (Np tag body) (fun _ _=>True) (fun _ W hS _=>J0.ret (B5l tag bv body W (hb.up hS) (by omega))) (fun _ _ _ h=>h),
  ⟨.call 102 (fun μ=>#[A8 seed,.slice (some ⟨(μ 6).b,0,none⟩) 1 1]) (fun _=>A8 (Yf seed tag body)) none (fun μ W=>Bk W (μ 6).b 38 [(μ 5).v]∧g.f.at 5 μ W∧True),fun μ W _ ⟨h6,h5,_⟩=>D0q seed _ [Np tag body] hs W (h6.parts1 (By.less h5 (Nat.zero_le _))) (Nat.zero_lt_one) (by simp) (D7h hbl),[Km (Yf seed tag body) 64 (Mt _ _ _)]⟩] E7 Tryz.func63 (by kernel_rfl)
theorem C3u (key:List UInt8) (tag:UInt8) (bv:Value) (body:List UInt8) (sig:List UInt8) (hk:key.length=32) (hg:sig.length=64) (w:World) (hb:By w 0 w.heap.size bv body) (hbl:body.length≤1000000):Calls Tryz.prog 65 #[A8 key,.int .u8 (n8 tag),bv,A8 sig] w fun e w'=>e=.returned (.bool (Qh key tag body sig))∧Below w.heap.size w w':=
 let g:=gBy w.heap.size Hc.cut (fun f=>f==103) fun n=>if n=7 then some (Np tag body) else none
 E8 (g:=g) 60 [Km key 32 hk,Zi (.int .u8 (n8 tag)) rfl,Zi bv hb.one',Km sig 64 hg] [
  C6t (fun _=>#[.int .u8 (n8 tag),bv]) 7 (Np tag body) (fun _ _=>True) (fun _ W hS _=>J0.ret (B5l tag bv body W (hb.up hS) (by omega))) (fun _ _ _ h=>h),
  ⟨.call 104 (fun μ=>#[A8 key,A8 sig,.slice (some ⟨(μ 8).b,0,none⟩) 1 1]) (fun _=>.bool (Qh key tag body sig)) none (fun μ W=>Bk W (μ 8).b 38 [(μ 7).v]∧g.f.at 7 μ W∧True),fun μ W _ ⟨h6,h5,_⟩=>B7k key sig _ [Np tag body] hk hg W (h6.parts1 (By.less h5 (Nat.zero_le _))) (Nat.zero_lt_one) (by simp) (D7h hbl),[Zi (.bool (Qh key tag body sig)) rfl]⟩] E7 Tryz.func65 (by kernel_rfl)
def Cx (v:Int):UInt64:=UInt64.ofNat (v % 18446744073709551616).toNat
theorem Wx (v:Int):IntKind.u64.wrap v=E6 (Cx v):=by
 unfold E6 Cx;rw[UInt64.toNat_ofNat'];simp only[IntKind.wrap,IntKind.bits,IntKind.signed,Bool.false_and,Bool.false_eq_true,if_false];omega
def Il (ver:Int) (key:List UInt8):List UInt8:=[J8 (Cx ver),key].flatten
theorem Wh (ver:Int) {key:List UInt8} (h:key.length=32):(Il ver key).length=40:=by simp[Il,h]
theorem D0e (ver:Int) (key:List UInt8) (hk:key.length=32) (w:World):Calls Tryz.prog 64 #[.int .i64 ver,A8 key] w fun e w'=>∃u,e=.returned u∧By w' w.heap.size w'.heap.size u (Il ver key)∧Below w.heap.size w w':=by
 let g:=gBy w.heap.size Hc.cut (fun f=>f==32||f==75) fun n=>if n=4 then some (J8 (Cx ver)) else if n=7 then some (Il ver key) else none
 have h:=C7w (w:=w) (g:=g) (v:=fun μ=>(μ 7).v) (q:=fun lo μ W=>g.f.at 7 μ W∧True) (nf:=false) (args:=#[.int .i64 ver,A8 key]) 60 [Zi (.int .i64 ver) rfl,Km key 32 hk] [
  D2k (s:=convert 3 99 (.int .i64 ver)) (v:=.int .u64 (E6 (Cx ver))) (fun W=>by rw[←Wx];rfl) [Zi (.int .u64 (E6 (Cx ver))) rfl],
  C6t (fun _=>#[.slice none 0 0,.int .u64 (E6 (Cx ver))]) 4 (J8 (Cx ver)) (fun _ _=>True) (fun _ W _ _=>J0.ret (Cu _ [] _ W (.inl ⟨rfl,rfl⟩) (by simp))) (fun _ _ _ h=>h),
  C6t (fun μ=>#[.slice (some ⟨(μ 6).b,0,none⟩) 2 2]) 7 (Il ver key) (fun μ W=>Bk W (μ 6).b 38 [(μ 4).v,.slice (some ⟨(μ 0).b,0,none⟩) 32 32]∧Bk W (μ 0).b 40 (c8 key)∧g.f.at 4 μ W∧True) (fun μ W _ ⟨h6,h0,h4,_⟩=>J0.ret (A5g _ _ W (h6.parts rfl (by simp[maxLen]) (B0o (By.less h4 (Nat.zero_le _)) (h0.byAll hk (by decide)))) (by simp[hk]))) (fun _ _ _ h=>h)] E7 Tryz.func64 (by kernel_rfl)
 exact h.mono fun e w' ⟨μ,h1,h2,h3⟩=>⟨_,h1,(h3 w' ⟨Nat.le_refl _,fun _ _ _=>rfl⟩ (.inr h2)).1,h2⟩
end
section
structure UV where
 id:List UInt8
 ver:Int
 key:List UInt8
 sig:List UInt8
structure UV.Ok (u : UV) : Prop where
 id:u.id.length=32
 key:u.key.length=32
 sig:u.sig.length=64
def N9 (u:UV):List Value:=c8 u.id++(.int .i64 u.ver::(c8 u.key++c8 u.sig))
def UV.length (u:UV):Nat:=(N9 u).length
def Rk (u:UV):Value:=.agg (N9 u).toArray
def Gk (_:Nat):UV:=⟨z8 32,0,z8 32,z8 64⟩
theorem UV.Ok.len {u:UV} (h:u.Ok):u.length=129:=by unfold UV.length N9;simp[h.id,h.key,h.sig]
theorem Ci (n:Nat):(Gk n).Ok:=⟨by simp[Gk],by simp[Gk],by simp[Gk]⟩
theorem Bu (u:UV):(N9 u).length=u.length:=rfl
theorem Gy (u:UV):∀x∈N9 u,x.oneCell'=true:=by
 intro x hx;simp only[N9,List.mem_append,List.mem_cons]at hx;rcases hx with hx | rfl | hx | hx
 ·obtain⟨y,_,rfl⟩:=List.mem_map.1 hx;rfl
 ·rfl
 ·obtain⟨y,_,rfl⟩:=List.mem_map.1 hx;rfl
 ·obtain⟨y,_,rfl⟩:=List.mem_map.1 hx;rfl
theorem C2b:(Tryz.prog.info? 69).map (·.size)=some 129:=by kernel_rfl
theorem C0y:((Tryz.prog.info? 69).bind (·.zero))=some (Rk (Gk 129)):=by kernel_rfl
theorem A6n:Tryz.prog.underlying 69=some (.struct (Q5 Tryz.prog 69)):=by kernel_rfl
@[go_sem] theorem F0v (u : UV) : Value.agg (N9 u).toArray = Rk u := rfl
@[go_sem] theorem E4s (t : TypeId) (w : World) (raw : Result Next) (u : UV) : Sq t w raw (Rk u) = .ok (.value (.pointer (some ⟨w.heap.size, 0, none⟩))) (w.alloc (.cells (N9 u).toArray t)) := rfl
@[go_sem] theorem D9v (n : Nat) (w : World) (raw : Result Next) (a : Addr) (u : UV) : X5 n w raw (.pointer (some a)) (Rk u) =
 if u.length=n∧F9 w a n=true then .ok .skip (C2 w a (N9 u)) else raw:=by
 have h1:((N9 u).toArray.all (·.oneCell'))=true:=by rw[Array.all_eq_true'];intro x hx;exact Gy u x (by simpa using hx)
 unfold Rk;rw[Me,h1];simp only[List.size_toArray,true_and,Bu]
section
variable (w : World) (ρ : Operand → Value) (dst : Option Tmp) (ty : TypeId) (pos : String) (after : Array Edge) (guard : Option (Nat × Bool))
@[go_sem ↓ high] theorem E9e:RL' 69 129:=LL' A6n C2b
@[go_sem ↓ high] theorem E7c:RS' 69 129:=SS' C2b
@[go_sem ↓ high] theorem E6e:RA' 69 (N9 (Gk 129)).toArray:=fun w ρ dst ty pos after guard=>N8 w ρ dst ty pos after guard 69 (Rk (Gk 129)) C0y
@[go_sem ↓ high] theorem F1a:RB' 69:=BX' _
end
theorem C5i (w:World):(Eu (Q5 Tryz.prog 69)).run Tryz.prog w=.ok #[(0,32),(32,1),(33,32),(65,64)] w:=by kernel_rfl
section
variable {w : World} {g : Nat} {t : TypeId} {u m : UV} {n : Nat}
theorem Bk.rowvc (K:Bk w g t (N9 u)) (hu:u.length=n):C4 w ⟨g,0,none⟩ n=some (N9 u):=by have:=K.rows;rwa [Bu,hu]at this
theorem Bk.canvc (K:Bk w g t (N9 u)) (hu:u.length=n):F9 w ⟨g,0,none⟩ n=true:=K.can (by rw[Bu,hu];omega)
theorem Bk.putvc (K:Bk w g t (N9 u)) (hu:u.length=n) (hm:m.length=n):Bk (C2 w ⟨g,0,none⟩ (N9 m)) g t (N9 m):=K.puts (by rw[Bu,Bu,hu,hm])
theorem UV.loadid (K:Bk w g t (N9 u)) (h:u.Ok):C4 w ⟨g,0,none⟩ 32=some (c8 u.id):=by
 rw[K.rowMid 0 32 (by rw[Bu,h.len];decide)];simp[N9,h.id]
theorem UV.loadver (K:Bk w g t (N9 u)) (h:u.Ok):w.cell? ⟨g,32,none⟩=some (.int .i64 u.ver):=by
 refine K.at_ ?_;simp[N9,h.id]
theorem UV.loadkey (K:Bk w g t (N9 u)) (h:u.Ok):C4 w ⟨g,33,none⟩ 32=some (c8 u.key):=by
 rw[K.rowMid 33 32 (by rw[Bu,h.len];decide)];simp[N9,h.id,h.key,List.drop_append,List.drop_eq_nil_of_le]
theorem UV.loadsig (K:Bk w g t (N9 u)) (h:u.Ok):C4 w ⟨g,65,none⟩ 64=some (c8 u.sig):=by
 rw[K.rowMid 65 64 (by rw[Bu,h.len];decide)];simp[N9,h.id,h.key,h.sig,List.drop_append,List.drop_eq_nil_of_le,List.take_of_length_le]
end
end
section
theorem C5o (seed:List UInt8) (bv:Value) (body:List UInt8) (hs:seed.length=32) (w:World) (hb:By w 0 w.heap.size bv body) (hbl:body.length≤1000000):Calls Tryz.prog 63 #[A8 seed,.int .u8 1,bv] w fun e w'=>e=.returned (A8 (Yf seed 1 body))∧Below w.heap.size w w':=D0i seed 1 bv body hs w hb hbl
theorem B8x (key:List UInt8) (bv:Value) (body sig:List UInt8) (hk:key.length=32) (hg:sig.length=64) (w:World) (hb:By w 0 w.heap.size bv body) (hbl:body.length≤1000000):Calls Tryz.prog 65 #[A8 key,.int .u8 1,bv,A8 sig] w fun e w'=>e=.returned (.bool (Qh key 1 body sig))∧Below w.heap.size w w':=C3u key 1 bv body sig hk hg w hb hbl
def D7s {Φ:Fcts} {w:World} (ver:Int) (key:List UInt8) (hk:key.length=32) (n:Nat) (hf:∀μ x W,By W w.heap.size W.heap.size x.v (Il ver key)→Φ.at n (Zp μ n x) W):DC Tryz.prog Φ (fun W=>Below w.heap.size w W):=
 C6t (fun _=>#[.int .i64 ver,A8 key]) n (Il ver key) (fun _ _=>True) (fun _ W _ _=>D0e ver key hk W) hf
def gBd (lo n:Nat) (ver:Int) (key:List UInt8):Cfg:=gBy lo (fun t=>if t=69 then some [32,1,32,64] else Hc.cut t) (fun f=>f==64) fun m=>if m=n then some (Il ver key) else none
noncomputable def mkU (seed:List UInt8) (ver:Int) (key:List UInt8):UV:=⟨Cy seed,ver,key,Yf seed 1 (Il ver key)⟩
theorem C9z (seed:List UInt8) (ver:Int) {key:List UInt8} (hk:key.length=32):(mkU seed ver key).Ok:=⟨Iq _,hk,Mt _ _ _⟩
set_option maxRecDepth 100000
theorem B2k (seed:List UInt8) (ver:Int) (key:List UInt8) (hs:seed.length=32) (hk:key.length=32) (w:World):Calls Tryz.prog 23 #[A8 seed,.int .i64 ver,A8 key] w fun e w'=>e=.returned (Rk (mkU seed ver key))∧Below w.heap.size w w':=
 E8 (g:=gBd w.heap.size 10 ver key) 60 [Km seed 32 hs,Zi (.int .i64 ver) rfl,Km key 32 hk] [dH (B8q seed hs) (Iq _),D7s ver key hk 10 (fun _ _ _ h=>h),
  ⟨.call 63 (fun μ=>#[A8 seed,.int .u8 1,(μ 10).v]) (fun _=>A8 (Yf seed 1 (Il ver key))) none (fun μ W=>(gBd w.heap.size 10 ver key).f.at 10 μ W∧True),fun μ W _ ⟨h,_⟩=>C5o seed _ _ hs W (By.less h (Nat.zero_le _)) (by rw[Wh _ hk];decide),[Km (Yf seed 1 (Il ver key)) 64 (Mt _ _ _)]⟩] E7 Tryz.func23 (by kernel_rfl)
end
section
noncomputable def signedB (u:UV):Bool:=decide (1≤u.ver)&&(decide (u.ver≤64)&&Qh u.id 1 (Il u.ver u.key) u.sig)
theorem B9z {u:UV} (h:decide (1≤u.ver)=false):signedB u=false:=by unfold signedB;rw[h,Bool.false_and]
theorem B6x {u:UV} (h:decide (u.ver≤64)=false):signedB u=false:=by unfold signedB;rw[h,Bool.false_and,Bool.and_false]
theorem B9y {u:UV} (h:decide (1≤u.ver)=true) (h2:decide (u.ver≤64)=true):signedB u=Qh u.id 1 (Il u.ver u.key) u.sig:=by unfold signedB;rw[h,h2,Bool.true_and,Bool.true_and]
set_option maxRecDepth 100000
theorem A1v (u:UV) (hu:u.Ok) (w:World):Calls Tryz.prog 24 #[Rk u] w fun e w'=>e=.returned (.bool (signedB u))∧Below w.heap.size w w':=by
 obtain⟨hi,hk,hs⟩:=hu;let ρ:List Av:=[Km u.id 32 hi,Zi (.int .i64 u.ver) rfl,Km u.key 32 hk,Km u.sig 64 hs]
 let g:=gBd w.heap.size 17 u.ver u.key
 let dGe (b:Bool) (hb:decide (1≤u.ver)=b):DC Tryz.prog g.f (fun W=>Below w.heap.size w W):=Vx (op:=.geq) (t:=3) (x:=.int .i64 u.ver) (y:=.int .i64 1) (v:=.bool b) (fun X Y W=>by rw[←hb];rfl) rfl
 let dLe (b:Bool) (hb:decide (u.ver≤64)=b):DC Tryz.prog g.f (fun W=>Below w.heap.size w W):=Vx (op:=.leq) (t:=3) (x:=.int .i64 u.ver) (y:=.int .i64 64) (v:=.bool b) (fun X Y W=>by rw[←hb];rfl) rfl
 cases h1:decide (1≤u.ver) with
 | false=>rw[B9z h1];exact E8 (g:=g) 60 ρ [dGe false h1] E7 Tryz.func24 (by kernel_rfl)
 | true=>cases h2:decide (u.ver≤64) with
  | false=>rw[B6x h2];exact E8 (g:=g) 60 ρ [dGe true h1,dLe false h2] E7 Tryz.func24 (by kernel_rfl)
  | true=>
   rw[B9y h1 h2];exact E8 (g:=g) 60 ρ [dGe true h1,dLe true h2,D7s u.ver u.key hk 17 (fun _ _ _ h=>h),
    ⟨.call 65 (fun μ=>#[A8 u.id,.int .u8 1,(μ 17).v,A8 u.sig]) (fun _=>.bool (Qh u.id 1 (Il u.ver u.key) u.sig)) none (fun μ W=>g.f.at 17 μ W∧True),fun μ W _ ⟨h,_⟩=>B8x u.id _ _ u.sig hi hs W (By.less h (Nat.zero_le _)) (by rw[Wh _ hk];decide),[Zi (.bool (Qh u.id 1 (Il u.ver u.key) u.sig)) rfl]⟩] E7 Tryz.func24 (by kernel_rfl)
end
end Go.Proofs.YtmllnpokbbabhaaGreat
