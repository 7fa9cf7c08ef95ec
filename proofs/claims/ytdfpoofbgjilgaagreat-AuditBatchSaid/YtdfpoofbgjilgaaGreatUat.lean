/- A part of the proof of AuditBatch. -/
import Derived.Lib.SlBytesConst
import Derived.Test.YtdfpoofbgjilgaaGreatUas
set_option linter.unusedVariables false
set_option linter.unusedSimpArgs false
set_option maxRecDepth 100000
set_option maxHeartbeats 40000000
namespace Go.Proofs.YtdfpoofbgjilgaaGreat
open Go Go.RowKit Sh
section
theorem Bk.parts {w:World} {g:Nat} {t:TypeId} {vs:List Value} {ls:List (List UInt8)} (K:Bk w g t vs) (hl:vs.length=ls.length) (hn:vs.length≤maxLen) (h:∀(i:Nat) (x:Value) (l:List UInt8),vs[i]?=some x→ls[i]?=some l→By w 0 w.heap.size x l) :
 M5 w w.heap.size (.slice (some ⟨g,0,none⟩) vs.length vs.length) ls:=
 ⟨vs,⟨some ⟨g,0,none⟩,vs.length,rfl,Nat.le_refl _,hn,.inr ⟨g,0,rfl,Nat.zero_le _,K.lt,fun j u hj=>K.at_ (by simpa using hj)⟩⟩,hl,h⟩
theorem Bk.parts1 {w:World} {g:Nat} {t:TypeId} {v:Value} {l:List UInt8} (K:Bk w g t [v]) (h:By w 0 w.heap.size v l):M5 w w.heap.size (.slice (some ⟨g,0,none⟩) 1 1) [l]:=
 K.parts (vs:=[v]) (ls:=[l]) rfl (by simp[maxLen]) fun i x m hx hm=>by
  match i with
  | 0=>simp at hx hm;subst hx hm;exact h
  | i+1=>simp at hx
def A0z (ls:List (List UInt8)):List UInt8:=Ww ls.flatten
@[simp, go_sem] theorem Mv (ls : List (List UInt8)) : (A0z ls).length = 64 := Sr _
def A6y (ls:List (List UInt8)):List UInt64:=Ye ls.flatten
@[simp, go_sem] theorem Fg (ls : List (List UInt8)) : (A6y ls).length = 4 := A0u _
theorem B2j (vp:Value) (ls:List (List UInt8)) (w:World) (hp:M5 w w.heap.size vp ls) (hsz:ls.flatten.length≤1099511627776):Calls Tryz.prog 129 #[vp] w fun e w'=>e=.returned (J0 (A6y ls))∧Below w.heap.size w w':=B4g vp ls w hp hsz
def b64 (l:List UInt8):Value:=.agg (c8 [g8 l 0]++(c8 ((l.drop 1).take 30)++(c8 [g8 l 31]++c8 (l.drop 32)))).toArray
theorem B9z {l:List UInt8} (hl:l.length=64):A8 l=b64 l:=by
 have h1:l=[g8 l 0]++((l.drop 1).take 30++([g8 l 31]++l.drop 32)):=by
  apply List.ext_getElem?;intro i;rcases Nat.lt_or_ge i 64 with h | h
  ·have:i=0∨(1≤i∧i<31)∨i=31∨32≤i:=by omega
   rcases this with rfl | ⟨h2,h3⟩ | rfl | h2
   ·simp[g8,List.getD_eq_getElem?_getD,hl]
   ·rw[List.getElem?_append_right (by simpa using h2),List.getElem?_append_left (by simp;omega)];simp[List.getElem?_take,List.getElem?_drop];rw[if_pos (by omega)];congr 1;omega
   ·rw[List.getElem?_append_right (by simp),List.getElem?_append_right (by simp;omega)];simp[g8,List.getD_eq_getElem?_getD,hl]
   ·rw[List.getElem?_append_right (by simp;omega),List.getElem?_append_right (by simp;omega),List.getElem?_append_right (by simp;omega)];simp[List.getElem?_drop,hl];congr 1;omega
  ·rw[List.getElem?_eq_none (by omega),List.getElem?_eq_none (by simp;omega)]
 unfold A8 b64;conv=>lhs;rw[h1]
 simp[c8]
def gS:Cfg:=⟨fun t=>if t=46 then some [1,30,1,32] else none,fun _=>none,noF⟩
def D3j (l:List UInt8) (b:Nat):Value:=.tuple #[.agg (c8 [g8 l 0 &&& 248]++(c8 ((l.drop 1).take 30)++c8 [g8 l 31 &&& 127 ||| 64])).toArray,.slice (some ⟨b,32,none⟩) 32 32]
set_option maxRecDepth 100000
theorem A9t (seed:List UInt8) (hs:seed.length=32) (w:World):Calls Tryz.prog 70 #[A8 seed] w fun e w'=>∃g,e=.returned (D3j (A0z [seed]) g)∧Below w.heap.size w w'∧w.heap.size≤g∧∀W,A9x w w' W→Bk W g 46 (c8 (A0z [seed])):=by
 let L:=A0z [seed]
 have hL:L.length=64:=Mv [seed];have aA:((L.drop 1).take 30).length=30:=by simp[hL]
 have aB:(L.drop 32).length=32:=by simp[hL]
 let ds:DL w:=[⟨.call 111 (fun μ=>#[.slice (some ⟨(μ 4).b,0,none⟩) 1 1]) (fun _=>b64 L) none (fun μ W=>Bk W (μ 4).b 29 [.slice (some ⟨(μ 0).b,0,none⟩) 32 32]∧Bk W (μ 0).b 35 (c8 seed)∧True),
  fun μ W _ ⟨h4,h0,_⟩=>by rw[←B9z hL];exact A1l _ [seed] W (h4.parts1 (h0.byAll hs (by decide))) (by simp[hs]),[Jg [g8 L 0] 1 rfl,Jg ((L.drop 1).take 30) 30 aA,Jg [g8 L 31] 1 rfl,Jg (L.drop 32) 32 aB]⟩,
  C0q (g8 L 0) 248,C0q (g8 L 31) 127,dOr (g8 L 31 &&& 127) 64]
 have h:=C6i (g:=gS) (v:=fun μ=>D3j L (μ 6).b) (q:=fun lo μ W=>(Bk W (μ 6).b 46 (c8 [g8 L 0]++(c8 ((L.drop 1).take 30)++(c8 [g8 L 31]++c8 (L.drop 32))))∧lo≤(μ 6).b)∧True) (nf:=true) (args:=#[A8 seed]) 60 [Jg seed 32 hs] ds F2 Tryz.func70 (by kernel_rfl);refine h.mono fun e w' ⟨μ,h1,h2,h3⟩=>⟨(μ 6).b,h1,h2,(h3 w' ⟨Nat.le_refl _,fun _ _ _=>rfl⟩ (.inl rfl)).1.2,fun W hW=>?_⟩;have h4:=(h3 W hW (.inl rfl)).1.1;have h5:c8 (A0z [seed])=c8 [g8 L 0]++(c8 ((L.drop 1).take 30)++(c8 [g8 L 31]++c8 (L.drop 32))):=List.toArray_inj (Value.agg.inj (B9z hL));rw[h5];exact h4
def Ig (seed:List UInt8):List UInt8:=(g8 (A0z [seed]) 0 &&& 248)::(((A0z [seed]).drop 1).take 30++[g8 (A0z [seed]) 31 &&& 127 ||| 64])
@[simp, go_sem] theorem Fp (seed : List UInt8) : (Ig seed).length = 32 := by simp [Ig, Mv]
theorem B8r (seed:List UInt8) (b:Nat):D3j (A0z [seed]) b=.tuple #[A8 (Ig seed),.slice (some ⟨b,32,none⟩) 32 32]:=by simp[D3j,Ig,A8,c8]
def gP:Cfg:=⟨Gc.cut,fun f=>if f=70 then some 1 else none,noF⟩
def F4c (seed:List UInt8) (hs:seed.length=32) (n:Nat) {w:World}:DC1 w:=
 ⟨.call 70 (fun _=>#[A8 seed]) (fun μ=>.tuple #[A8 (Ig seed),(μ n).v]) (some n) (fun _ _=>True),
  fun μ W _ _=>(A9t seed hs W).mono fun e w' ⟨g,h1,h2,_⟩=>⟨⟨0,.slice (some ⟨g,32,none⟩) 32 32,rfl⟩,by rw[h1,B8r];simp[Xs],h2,fun _ _ _ _=>trivial⟩,[Jg (Ig seed) 32 (Fp seed),Wo jnk rfl]⟩
noncomputable def Ac (seed:List UInt8):List UInt8:=Fv (Sz X5 (Ig seed))
@[simp, go_sem] theorem Hh (seed : List UInt8) : (Ac seed).length = 32 := X7 _
theorem B6n (seed:List UInt8) (hs:seed.length=32) (w:World):Calls Tryz.prog 28 #[A8 seed] w fun e w'=>e=.returned (A8 (Ac seed))∧Below w.heap.size w w':=by
 have hm:∀W,Calls Tryz.prog 72 #[X5.val,A8 (Ig seed)] W fun e W'=>e=.returned (Sz X5 (Ig seed)).val∧Below W.heap.size W W':=fun W=>by
  have h:=B0a X5 (Ig seed) S4 (Fp seed) W;simp only[Pn.seg]at h;exact h
 exact F8 (g:=gP) 60 [Jg seed 32 hs] [F4c seed hs 3,dP Wk S4,dP hm (Ph S4 _),dH (Ug (Sz X5 (Ig seed)) (Ph S4 _)) (X7 _)] F2 Tryz.func28 (by kernel_rfl)
def B2w (seed:List UInt8):List UInt8:=(A0z [seed]).drop 32
@[simp, go_sem] theorem C5c (seed : List UInt8) : (B2w seed).length = 32 := by simp [B2w]
def Lm (a:List UInt8):List UInt64:=Zk (a++z8 32)
theorem Mt (a:List UInt8):(Lm a).length=4:=Gh _
theorem B5g (a:List UInt8) (ha:a.length=32) (w:World):Calls Tryz.prog 134 #[A8 a] w fun e w'=>e=.returned (J0 (Lm a))∧Below w.heap.size w w':=
 F8 (g:=Gc) 60 [Jg a 32 ha] [dR (args:=#[.agg (c8 a++c8 (z8 32)).toArray]) 4 (fun W=>by rw[show Value.agg (c8 a++c8 (z8 32)).toArray=A8 (a++z8 32) by simp[A8,c8]];exact A4d (a++z8 32) (by simp[ha]) W) (Gh _)] F2 Tryz.func134 (by kernel_rfl)
end
section
noncomputable def sgR (seed:List UInt8) (ps:List (List UInt8)):List UInt64:=A6y (B2w seed::ps)
noncomputable def sgF (seed:List UInt8) (ps:List (List UInt8)):List UInt8:=Fv (Sz X5 (Cp (sgR seed ps)))
noncomputable def sgK (seed:List UInt8) (ps:List (List UInt8)):List UInt64:=A6y (sgF seed ps::Ac seed::ps)
noncomputable def sgS (seed:List UInt8) (ps:List (List UInt8)):List UInt8:=Cp (B6t (sgR seed ps) (B4u (sgK seed ps) (Lm (Ig seed))))
noncomputable def Wq (seed:List UInt8) (ps:List (List UInt8)):List UInt8:=sgF seed ps++sgS seed ps
theorem A0f (seed:List UInt8) (ps:List (List UInt8)):(sgF seed ps).length=32:=X7 _
theorem B6q (seed:List UInt8) (ps:List (List UInt8)):(sgS seed ps).length=32:=Z4 _
theorem A7r (seed:List UInt8) (ps:List (List UInt8)):(Wq seed ps).length=64:=by simp[Wq,A0f,B6q]
theorem Bk.sl {w:World} {g:Nat} {t:TypeId} {vs:List Value} {n:Nat} (K:Bk w g t vs) (hl:vs.length=n) (hn:n≤maxLen):Sl w 0 w.heap.size (.slice (some ⟨g,0,none⟩) n n) vs:=
 ⟨some ⟨g,0,none⟩,n,by rw[hl],Nat.le_of_eq hl,hn,.inr ⟨g,0,rfl,Nat.zero_le _,K.lt,fun j u hj=>K.at_ (by simpa using hj)⟩⟩
theorem Sl.later {w w' W:World} {v:Value} {cs:List Value} (h:Sl w' w.heap.size w'.heap.size v cs) (hz:w'.heap.size≤W.heap.size) (he:∀k,w.heap.size≤k→k<w'.heap.size→W.heap[k]?=w'.heap[k]?):Sl W w.heap.size W.heap.size v cs:=by
 obtain⟨A,c,h1,h2,h3,h4⟩:=h;refine ⟨A,c,h1,h2,h3,?_⟩;rcases h4 with h | ⟨g,o,rfl,hl,hb,hc⟩
 ·exact .inl h
 ·refine .inr ⟨g,o,rfl,hl,Nat.lt_of_lt_of_le hb hz,fun j u hj=>?_⟩;have:=hc j u hj;rw[←this];unfold World.cell?;rw[he g hl hb]
section
variable {Φ : Fcts} {w : World}
def C6b (vp:Value) (vs:List Value) (b n k:Nat) (t:TypeId) (ms:(Nat→Nm)→List Value) (pre:(Nat→Nm)→World→Prop) (hs:Sl w 0 w.heap.size vp vs) (h1:∀u∈vs,u.oneCell'=true) (h0:0<vs.length) (hz:k+vs.length≤1000000) (hk:∀μ,(ms μ).length=k)
 (hp:∀μ W,pre μ W→Bk W (μ b).b t (ms μ)) (hf:∀μ x W,Sl W 0 W.heap.size x.v (ms μ++vs)→Φ.at n (Xs μ n x) W):DC Tryz.prog Φ (fun W=>Below w.heap.size w W):=
 ⟨.call 130 (fun μ=>#[vp,.slice (some ⟨(μ b).b,0,none⟩) k k]) (fun μ=>(μ n).v) (some n) pre,fun μ W hS hpre=>by
  have hk':=hk μ;subst hk';refine (C9j (μ b).b 0 _ vp (ms μ) vs W ((hp μ W hpre).sl rfl (by simp only[maxLen];omega)) ((hs.below hS).more hS.size) h1 h0 hz).mono fun e W' ⟨v,e1,e2,e3⟩=>?_;obtain⟨A,c,e4,_⟩:=id e2;exact ⟨⟨0,v,by rw[e4];rfl⟩,by rw[e1];simp[Xs],e3,fun W'' hz he hS'=>hf μ _ W'' ((e2.later hz he).less (Nat.zero_le _))⟩,[Wo jnk rfl]⟩
def D6m (ls:List (List UInt8)) (n:Nat) (pre:(Nat→Nm)→World→Prop) (hz:ls.flatten.length≤1099511627776) (hp:∀μ W,Below w.heap.size w W→pre μ W→M5 W W.heap.size (μ n).v ls):DC Tryz.prog Φ (fun W=>Below w.heap.size w W):=
 ⟨.call 129 (fun μ=>#[(μ n).v]) (fun _=>J0 (A6y ls)) none pre,fun μ W hS hpre=>B2j _ ls W (hp μ W hS hpre) hz,[Bi (A6y ls) 4 (Fg ls)]⟩
end
theorem D0e (seed:List UInt8) (hs:seed.length=32) (W:World):Calls Tryz.prog 72 #[X5.val,A8 seed] W fun e W'=>e=.returned (Sz X5 seed).val∧Below W.heap.size W W':=by
 have h:=B0a X5 seed S4 hs W;simp only[Pn.seg]at h;exact h
theorem Mm {w W:World} {v:Value} {ms vs:List Value} {ls ps:List (List UInt8)} (hl:vs.length=ps.length) (he:∀(i:Nat) (x:Value) (l:List UInt8),vs[i]?=some x→ps[i]?=some l→By w 0 w.heap.size x l) (hS:Below w.heap.size w W)
 (h:Sl W 0 W.heap.size v (ms++vs)) (hm:ms.length=ls.length) (h3:∀(i:Nat) (x:Value) (l:List UInt8),ms[i]?=some x→ls[i]?=some l→By W 0 W.heap.size x l):M5 W W.heap.size v (ls++ps):=
 M5.join hm hl h (Below.refl _ _) h3 fun i x l hx hl=>(he i x l hx hl).up hS
def F3b (L:List UInt8) (vs:List Value):Fcts:=⟨fun n=>if n=19 then [3] else if n=34 then [28,14] else [],fun n l W=>match n,l with
 | 3,[x]=>∃g,x.v=.slice (some ⟨g,32,none⟩) 32 32∧Bk W g 46 (c8 L)
 | 19,[x,y]=>Sl W 0 W.heap.size x.v ([y.v]++vs)
 | 34,[x,y,z]=>Sl W 0 W.heap.size x.v ([.slice (some ⟨y.b,0,none⟩) 32 32,.slice (some ⟨z.b,0,none⟩) 32 32]++vs)
 | _,_=>True⟩
def gSg (L:List UInt8) (vs:List Value):Cfg:=⟨Gc.cut,fun f=>if f=70 then some 1 else if f=130 then some 0 else none,F3b L vs⟩
theorem A6t {w:World} {x y:Value} {l m:List UInt8} (h1:By w 0 w.heap.size x l) (h2:By w 0 w.heap.size y m) (i:Nat) (z:Value) (k:List UInt8) (hz:[x,y][i]?=some z) (hk:[l,m][i]?=some k):By w 0 w.heap.size z k:=by
 match i with
 | 0=>simp at hz hk;subst hz hk;exact h1
 | 1=>simp at hz hk;subst hz hk;exact h2
 | i+2=>simp at hz
theorem C0r {w:World} {x:Value} {l:List UInt8} (h1:By w 0 w.heap.size x l) (i:Nat) (z:Value) (k:List UInt8) (hz:[x][i]?=some z) (hk:[l][i]?=some k):By w 0 w.heap.size z k:=by
 match i with
 | 0=>simp at hz hk;subst hz hk;exact h1
 | i+1=>simp at hz
set_option maxRecDepth 100000
theorem C4u (seed:List UInt8) (vp:Value) (ps:List (List UInt8)) (hs:seed.length=32) (w:World) (hp:M5 w w.heap.size vp ps) (hp0:0<ps.length) (hpl:ps.length≤1000) (hpf:ps.flatten.length≤1000000000):Calls Tryz.prog 86 #[A8 seed,vp] w fun e w'=>e=.returned (A8 (Wq seed ps))∧Below w.heap.size w w':=by
 obtain⟨vs,hv,hl,he⟩:=hp;have h1:=M5.one_cells hl he;have aC:vp.oneCell'=true:=by obtain⟨A,c,rfl,_⟩:=hv;rfl
 let L:=A0z [seed]
 have hL:L.length=64:=Mv _;have hF:(sgF seed ps).length=32:=A0f seed ps;have hP:(Ac seed).length=32:=Hh seed;have aA:A8 (Wq seed ps)=.agg (c8 (sgF seed ps)++c8 (sgS seed ps)).toArray:=by simp[Wq,A8,c8]
 rw[aA];have aB:∀μ W,Below w.heap.size w W→(gSg L vs).f.at 3 μ W→By W 0 W.heap.size (μ 3).v (B2w seed):=fun μ W _ ⟨g,e,K⟩=>by
  have e':(μ 3).v=.slice (some ⟨g,32,none⟩) 32 32:=e;rw[e'];exact K.by 32 32 32 (by omega) (Nat.le_refl _) (by decide) (by simp[B2w,L,List.take_of_length_le])
 let ds:List (DC Tryz.prog (gSg L vs).f (fun W=>Below w.heap.size w W)):=[
  ⟨.call 70 (fun _=>#[A8 seed]) (fun μ=>.tuple #[A8 (Ig seed),(μ 3).v]) (some 3) (fun _ _=>True),
   fun μ W _ _=>(A9t seed hs W).mono fun e w' ⟨g,h1,h2,_,h3⟩=>⟨⟨0,.slice (some ⟨g,32,none⟩) 32 32,rfl⟩,by rw[h1,B8r];simp[Xs],h2,fun W hz he _=>⟨g,rfl,h3 W ⟨hz,he⟩⟩⟩,[Jg (Ig seed) 32 (Fp seed),Wo jnk rfl]⟩,
  dP Wk S4,dP (D0e (Ig seed) (Fp seed)) (Ph S4 _),dH (Ug (Sz X5 (Ig seed)) (Ph S4 _)) (X7 _),
  C6b vp vs 18 19 1 29 (fun μ=>[(μ 3).v]) (fun μ W=>Bk W (μ 18).b 29 [(μ 3).v]∧(gSg L vs).f.at 3 μ W∧True) hv h1 (by omega) (by omega) (fun _=>rfl) (fun _ _ h=>h.1) (fun _ _ _ h=>h),
  D6m (B2w seed::ps) 19 (fun μ W=>(gSg L vs).f.at 19 μ W∧(gSg L vs).f.at 3 μ W∧True) (by rw[List.flatten_cons,List.length_append,C5c];omega) (fun μ W hS ⟨h19,h3,_⟩=>Mm (ms:=[(μ 3).v]) (ls:=[B2w seed]) hl he hS h19 rfl (C0r (aB μ W hS h3))),
  dP Wk S4,dH (Pf (sgR seed ps) (Fg _)) (Z4 _),dP (D0e (Cp (sgR seed ps)) (Z4 _)) (Ph S4 _),dH (Ug (Sz X5 (Cp (sgR seed ps))) (Ph S4 _)) (X7 _),
  C6b vp vs 33 34 2 29 (fun μ=>[.slice (some ⟨(μ 28).b,0,none⟩) 32 32,.slice (some ⟨(μ 14).b,0,none⟩) 32 32]) (fun μ W=>Bk W (μ 33).b 29 [.slice (some ⟨(μ 28).b,0,none⟩) 32 32,.slice (some ⟨(μ 14).b,0,none⟩) 32 32]∧Bk W (μ 28).b 35 (c8 (sgF seed ps))∧Bk W (μ 14).b 35 (c8 (Ac seed))∧True) hv h1 (by omega) (by omega) (fun _=>rfl) (fun _ _ h=>h.1) (fun _ _ _ h=>h),
  D6m (sgF seed ps::Ac seed::ps) 34 (fun μ W=>Bk W (μ 28).b 35 (c8 (sgF seed ps))∧Bk W (μ 14).b 35 (c8 (Ac seed))∧(gSg L vs).f.at 34 μ W∧True) (by rw[List.flatten_cons,List.length_append,List.flatten_cons,List.length_append,hF,hP];omega) (fun μ W hS ⟨h28,h14,h34,_⟩=>Mm (ms:=[.slice (some ⟨(μ 28).b,0,none⟩) 32 32,.slice (some ⟨(μ 14).b,0,none⟩) 32 32]) (ls:=[sgF seed ps,Ac seed]) hl he hS h34 rfl (A6t (h28.byAll hF (by decide)) (h14.byAll hP (by decide)))),
  dR 4 (B5g (Ig seed) (Fp seed)) (Mt _),dR 4 (C9k (sgK seed ps) (Lm (Ig seed)) (Fg _) (Mt _)) (Wr _ _),dR 4 (C5a (sgR seed ps) (B4u (sgK seed ps) (Lm (Ig seed))) (Fg _) (Wr _ _)) (Wn _ _),dH (Pf (B6t (sgR seed ps) (B4u (sgK seed ps) (Lm (Ig seed)))) (Wn _ _)) (Z4 _)]
 exact F8 (g:=gSg L vs) 80 [Jg seed 32 hs,Wo vp aC] ds F2 Tryz.func86 (by kernel_rfl)
end
section
noncomputable def vfK (key sig:List UInt8) (ps:List (List UInt8)):List UInt64:=A6y (E1 sig 0::key::ps)
noncomputable def vfH (key sig:List UInt8) (ps:List (List UInt8)):List UInt8:=Fv (A9c (Cp (Ik (E1 sig 32))) (A8m (De key)) (Cp (vfK key sig ps)))
noncomputable def Eh (key sig:List UInt8) (ps:List (List UInt8)):Bool:=Dn key&&(!Kt (De key)&&(Lr (E1 sig 32)&&vfH key sig ps==E1 sig 0))
theorem D0t {key:List UInt8} (h:Dn key=false):Ot key=50:=(Yr h).2
theorem C5k {key:List UInt8} (h:Dn key=true):Ot key=0:=if_pos h
theorem D5z {key sig:List UInt8} {ps:List (List UInt8)} (h:Dn key=false):Eh key sig ps=false:=by unfold Eh;rw[h,Bool.false_and]
theorem D6o {key sig:List UInt8} {ps:List (List UInt8)} (h:Kt (De key)=true):Eh key sig ps=false:=by unfold Eh;rw[h];simp
theorem D6c {key sig:List UInt8} {ps:List (List UInt8)} (h:Lr (E1 sig 32)=false):Eh key sig ps=false:=by unfold Eh;rw[h];simp
theorem D8g {key sig:List UInt8} {ps:List (List UInt8)} (h1:Dn key=true) (h2:Kt (De key)=false) (h3:Lr (E1 sig 32)=true):Eh key sig ps=(vfH key sig ps==E1 sig 0):=by unfold Eh;rw[h1,h2,h3,Bool.not_false,Bool.true_and,Bool.true_and,Bool.true_and]
theorem B4k (key sig:List UInt8) (ps:List (List UInt8)):(vfH key sig ps).length=32:=X7 _
def gVf (vs:List Value):Cfg:=⟨fun t=>if t=46 then some [32,32] else Gc.cut t,fun f=>if f=130 then some 0 else none,⟨fun n=>if n=33 then [1,0] else [],fun n l W=>match n,l with
 | 33,[x,y,z]=>Sl W 0 W.heap.size x.v ([.slice (some ⟨y.b,0,none⟩) 32 64,.slice (some ⟨z.b,0,none⟩) 32 32]++vs)
 | _,_=>True⟩⟩
set_option maxRecDepth 100000
theorem C3r {sig:List UInt8} (hg:sig.length=64):A8 sig=.agg (c8 (E1 sig 0)++c8 (E1 sig 32)).toArray:=by
 conv=>lhs;rw[←List.take_append_drop 32 sig]
 simp[A8,c8,E1,List.take_of_length_le,hg]
theorem B3y (key sig:List UInt8) (vp:Value) (ps:List (List UInt8)) (hk:key.length=32) (hg:sig.length=64) (w:World) (hp:M5 w w.heap.size vp ps) (hp0:0<ps.length) (hpl:ps.length≤1000) (hpf:ps.flatten.length≤1000000000):Calls Tryz.prog 164 #[A8 key,A8 sig,vp] w fun e w'=>e=.returned (.bool (Eh key sig ps))∧Below w.heap.size w w':=by
 obtain⟨vs,hv,hl,he⟩:=hp;have h1:=M5.one_cells hl he;have aB:vp.oneCell'=true:=by obtain⟨A,c,rfl,_⟩:=hv;rfl
 have hr:(E1 sig 0).length=32:=A7q hg 0 (by decide);have hs:(E1 sig 32).length=32:=A7q hg 32 (by decide);have aC:=C3r hg;rw[aC];let ρ:List Av:=[Jg key 32 hk,Jg (E1 sig 0) 32 hr,Jg (E1 sig 32) 32 hs,Wo vp aB]
 let dDec:DC Tryz.prog (gVf vs).f (fun W=>Below w.heap.size w W):=⟨.call 194 (fun _=>#[A8 key]) (fun _=>.tuple #[(De key).val,.int .i64 (Ot key)]) none (fun _ _=>True),fun _ W _ _=>by have h:=B7k key hk W;simp only[Pn.seg]at h;exact h,(De key).av (Tv key)++[Wo (.int .i64 (Ot key)) rfl]⟩
 let dNeE (b:Bool) (hb:∀W,(binOp .neq 38 (.int .i64 (Ot key)) (.int .i64 0)).run Tryz.prog W=.ok (.bool b) W):DC Tryz.prog (gVf vs).f (fun W=>Below w.heap.size w W):=Tu (op:=.neq) (t:=38) (x:=.int .i64 (Ot key)) (y:=.int .i64 0) (v:=.bool b) (fun X Y W=>by simp only[Sem.run_bind,show (eqGuard .neq 38 X Y (.int .i64 (Ot key)) (.int .i64 0)).run Tryz.prog W=.ok () W from rfl,Result.andThen_ok,hb W]) rfl
 cases hd:Dn key with
 | false=>
  rw[D5z hd];exact F8 (g:=gVf vs) 80 ρ [dDec,dNeE true fun W=>by rw[D0t hd];rfl] F2 Tryz.func164 (by kernel_rfl)
 | true=>
  let dN:=dNeE false fun W=>by rw[C5k hd];rfl
  have aA:∀W,Calls Tryz.prog 195 #[(De key).val] W fun e W'=>e=.returned (.bool (Kt (De key)))∧Below W.heap.size W W':=fun W=>by have h:=B6h (De key) (Tv key) W;simp only[Pn.seg]at h;exact h
  cases hm:Kt (De key) with
  | true=>
   rw[D6o hm];rw[hm]at aA;exact F8 (g:=gVf vs) 80 ρ [dDec,dN,dB aA] F2 Tryz.func164 (by kernel_rfl)
  | false=>
   rw[hm]at aA;let dNew (b:Bool) (hb:Lr (E1 sig 32)=b):DC Tryz.prog (gVf vs).f (fun W=>Below w.heap.size w W):=⟨.call 196 (fun _=>#[A8 (E1 sig 32)]) (fun _=>.tuple #[J0 (Ik (E1 sig 32)),.bool b]) none (fun _ _=>True),fun _ W _ _=>by rw[←hb];exact C7j (E1 sig 32) hs W,[Bi (Ik (E1 sig 32)) 4 (Uo _),Wo (.bool b) rfl]⟩
   cases hn:Lr (E1 sig 32) with
   | false=>
    rw[D6c hn];exact F8 (g:=gVf vs) 80 ρ [dDec,dN,dB aA,dNew false hn] F2 Tryz.func164 (by kernel_rfl)
   | true=>
    rw[D8g hd hm hn];have aD:∀W,Calls Tryz.prog 197 #[A8 (Cp (Ik (E1 sig 32))),(A8m (De key)).val,A8 (Cp (vfK key sig ps))] W fun e W'=>e=.returned (A9c (Cp (Ik (E1 sig 32))) (A8m (De key)) (Cp (vfK key sig ps))).val∧Below W.heap.size W W':=fun W=>by have h:=C8a (Cp (Ik (E1 sig 32))) (A8m (De key)) (Cp (vfK key sig ps)) (Z4 _) (C0d (Tv key)) (Z4 _) W;simp only[Pn.seg]at h;exact h
    exact F8 (g:=gVf vs) 80 ρ [dDec,dN,dB aA,dNew true hn,
     C6b vp vs 32 33 2 29 (fun μ=>[.slice (some ⟨(μ 1).b,0,none⟩) 32 64,.slice (some ⟨(μ 0).b,0,none⟩) 32 32]) (fun μ W=>Bk W (μ 32).b 29 [.slice (some ⟨(μ 1).b,0,none⟩) 32 64,.slice (some ⟨(μ 0).b,0,none⟩) 32 32]∧Bk W (μ 1).b 46 (c8 (E1 sig 0)++c8 (E1 sig 32))∧Bk W (μ 0).b 35 (c8 key)∧True) hv h1 (by omega) (by omega) (fun _=>rfl) (fun _ _ h=>h.1) (fun _ _ _ h=>h),
     D6m (E1 sig 0::key::ps) 33 (fun μ W=>Bk W (μ 1).b 46 (c8 (E1 sig 0)++c8 (E1 sig 32))∧Bk W (μ 0).b 35 (c8 key)∧(gVf vs).f.at 33 μ W∧True) (by rw[List.flatten_cons,List.length_append,List.flatten_cons,List.length_append,hr,hk];omega) (fun μ W hS ⟨h28,h14,h34,_⟩=>Mm (ms:=[.slice (some ⟨(μ 1).b,0,none⟩) 32 64,.slice (some ⟨(μ 0).b,0,none⟩) 32 32]) (ls:=[E1 sig 0,key]) hl he hS h34 rfl (A6t (Bk.by (l:=E1 sig 0++E1 sig 32) (by simpa [c8] using h28) 0 32 64 (by simp[hr]) (by decide) (by decide) (by simp[hr])) (h14.byAll hk (by decide)))),
     dH (Pf (Ik (E1 sig 32)) (Uo _)) (Z4 _),dP (E8u (De key) (Tv key)) (C0d (Tv key)),dH (Pf (vfK key sig ps) (Fg _)) (Z4 _),dP aD (B2f _ _ _),dH (Ug (A9c (Cp (Ik (E1 sig 32))) (A8m (De key)) (Cp (vfK key sig ps))) (B2f _ _ _)) (X7 _),
     dEq (vfH key sig ps) (E1 sig 0) (B4k key sig ps) hr rfl] F2 Tryz.func164 (by kernel_rfl)
end
theorem B4j (w:World):Calls Tryz.prog 83 #[.slice none 0 0] w fun e w'=>e=.returned (.slice none 0 0)∧w=w':=by
 have aA:∀(w:World) (a:Option Addr) (n c n' c':Nat),(binOp .eql 29 (.slice a n c) (.slice none n' c')).run Tryz.prog w=.ok (.bool a.isNone) w:=fun w a n c n' c'=>Lib.run_eql_slice_nil w _ _ a n c n' c' Tryz.underlying29;go_enter Tryz.func83,Tryz.ntmps83;go_wp2;go_ret;exact ⟨rfl,rfl⟩
theorem A1x (v:Value) (l:List UInt8) (w:World) (hv:By w 0 w.heap.size v l) (hne:0<l.length) (hn:l.length≤1099511627776) :
 Calls Tryz.prog 83 #[v] w fun e w'=>∃u,e=.returned u∧J6 w' w.heap.size u l∧Below w.heap.size w w':=by
 obtain⟨g,o,c,rfl,h1,h2,_,_,_⟩:=hv.row hne;have aA:=Lib.hid (hv.alloc (Nat.le_refl _) (.cells #[] 5));clear hv;have aD:∀(w:World) (a:Option Addr) (n c n' c':Nat),(binOp .eql 29 (.slice a n c) (.slice none n' c')).run Tryz.prog w=.ok (.bool a.isNone) w:=fun w a n c n' c'=>Lib.run_eql_slice_nil w _ _ a n c n' c' Tryz.underlying29;have ho:Hid (J6 (w.alloc (.cells #[] 5)) w.heap.size (.slice (some ⟨w.heap.size,0,none⟩) 0 0) []):=Lib.hid (World.ownsRow_made w #[] 0 (Nat.le_refl _) (Nat.zero_le _) (by simp));go_enter Tryz.func83,Tryz.ntmps83;go_wp2_with (at_builtin;refine Tb _ w.heap.size _ [] rfl _ _ rfl rfl ho.out _ rfl l 0 _ aA.out (by simp;omega) (by simp) ?_;intro A2 c2 w2 aE aF aB aC aG aH);go_ret;exact ⟨_,rfl,by simpa using aB,((Below.refl _ _).alloc (Nat.le_refl _) _).trans aC⟩
theorem C3b (v:UInt64) (m:Nat) (hm:m<8):(J9 v).take m++[(v >>> UInt64.ofNat (56-8*m)).toUInt8]=(J9 v).take (m+1):=by
 match m,hm with
 | 0,_=>rfl
 | 1,_=>rfl
 | 2,_=>rfl
 | 3,_=>rfl
 | 4,_=>rfl
 | 5,_=>rfl
 | 6,_=>rfl
 | 7,_=>
  show [(v >>> 56).toUInt8,(v >>> 48).toUInt8,(v >>> 40).toUInt8,(v >>> 32).toUInt8,(v >>> 24).toUInt8,(v >>> 16).toUInt8,(v >>> 8).toUInt8]++[(v >>> UInt64.ofNat 0).toUInt8]=J9 v;have:v >>> UInt64.ofNat 0=v:=by
   apply UInt64.toNat_inj.1;rw[UInt64.toNat_shiftRight];simp
  rw[this];rfl
@[simp] theorem Q8 (v : UInt64) : (J9 v).length = 8 := rfl
def B5f (w:World) (bv:Value) (l:List UInt8):Prop:=(bv=.slice none 0 0∧l=[])∨(By w 0 w.heap.size bv l∧0<l.length∧l.length≤1099511627776)
theorem A9h (bv:Value) (l:List UInt8) (w:World) (h:B5f w bv l):Calls Tryz.prog 83 #[bv] w fun e w'=>∃u,e=.returned u∧J6 w' w.heap.size u l∧Below w.heap.size w w':=by
 rcases h with ⟨rfl,rfl⟩ | ⟨h1,h2,h3⟩
 ·refine (B4j w).mono ?_;rintro e w' ⟨rfl,rfl⟩;exact ⟨_,rfl,J6.nil _ _,Below.refl _ _⟩
 ·exact A1x bv l w h1 h2 h3
theorem Ca (bv:Value) (l:List UInt8) (v:UInt64) (w:World) (h:B5f w bv l) (hl:l.length≤1099511627776) :
 Calls Tryz.prog 45 #[bv,.int .u64 (H6 v)] w fun e w'=>∃u,e=.returned u∧J6 w' w.heap.size u (l++J9 v)∧Below w.heap.size w w':=by
 have H:=Lib.hid h;clear h;go_enter Tryz.func45,Tryz.ntmps45;go_wp2_with fail;refine (A9h bv l w H.out).mono ?_;rintro e w1 ⟨u,rfl,O1,b1⟩;have aC:J6 w1 w.heap.size u (l++(J9 v).take 0):=by simpa using O1
 have O1:=Lib.hid aC;clear aC;go_wp2_with fail;go_loopw [5,6] (fun s x wr=>∃m:Nat,m≤8∧x=.int .i64 (56-8*(m:Int))∧J6 wr w.heap.size s (l++(J9 v).take m)∧Below w.heap.size w wr) (fun _ x _=>(intOf x+8).toNat)
 case atStart=>exact ⟨0,by omega,rfl,O1.out,b1⟩
 case round=>
  clear O1 b1;obtain⟨m,hm,rfl,O,B⟩:=hrel;by_cases hlt:m<8
  ·obtain⟨s,hs⟩:∃s,s=56-8*m:=⟨_,rfl⟩;have es:56-8*(m:Int)=(s:Int):=by omega
   have aD:s<64:=by omega
   have hd:decide (0≤(s:Int))=true:=decide_eq_true (by omega);rw[es];have HS:Hid ((J9 v).take m++[(v >>> UInt64.ofNat s).toUInt8]=(J9 v).take (m+1)):=Lib.hid (by rw[hs];exact C3b v m hlt);have ES:=Lib.hid es;have aB:(l++(J9 v).take m).length≤2199023255552:=by simp;omega
   clear hs es;obtain⟨L,hL⟩:∃L,L=l++(J9 v).take m:=⟨_,rfl⟩;have HL:Hid (L++[(v >>> UInt64.ofNat s).toUInt8]=l++(J9 v).take (m+1)):=Lib.hid (by rw[hL,List.append_assoc,HS.out]);rw[←hL]at O aB;clear hL HS;have O':=Lib.hid O;clear O;go_wp2_with (at_builtin;refine Ht _ w.heap.size _ L rfl _ _ rfl rfl O'.out _ _ rfl rfl (by omega) B.size ?_;intro A2 c2 w7 aG aH aE aF;generalize (L++[(v >>> UInt64.ofNat s).toUInt8]).length=L7 at *);go_roundw;case rel=>exact ⟨m+1,by omega,by rw[←ES.out];all_goals (simp<;>omega),by rw[←HL.out];exact aE,B.trans aF⟩
   case measure=>have:=ES.out;simp[intOf]<;>omega
  ·obtain rfl:m=8:=by omega
   have aA:(J9 v).take 8=J9 v:=rfl;rw[aA]at O;have O':=Lib.hid O;clear O aA;go_wp2_with fail;go_ret;exact ⟨_,rfl,O'.out,B⟩
theorem J6.up {w:World} {base:Nat} {v:Value} {l:List UInt8} (h:J6 w base v l):By w 0 w.heap.size v l:=By.less h.by_ (Nat.zero_le _)
def A3f (l x:List UInt8):List UInt8:=l++J9 (UInt64.ofNat x.length)++x
theorem Fr (l x:List UInt8):(A3f l x).length=l.length+8+x.length:=by simp[A3f];omega
theorem Rn (bv xv:Value) (l x:List UInt8) (w:World) (h:B5f w bv l) (hx:By w 0 w.heap.size xv x) (hl:l.length≤1099511627) (hxl:x.length≤1099511627776) :
 Calls Tryz.prog 46 #[bv,xv] w fun e w'=>∃u,e=.returned u∧J6 w' w.heap.size u (A3f l x)∧Below w.heap.size w w':=by
 obtain⟨A,c,rfl,h2,h3,_⟩:=hx.open_;have hw:IntKind.u64.wrap (x.length:Int)=H6 (UInt64.ofNat x.length):=by
  rw[Dv];unfold H6;simp
 have H:=Lib.hid h;have HX:=Lib.hid hx;have HE:Hid (A3f l x=(l++J9 (UInt64.ofNat x.length))++x):=Lib.hid rfl;obtain⟨n,hn⟩:∃n,n=x.length:=⟨_,rfl⟩;rw[←hn]at hw HE h2 hxl HX ⊢;have HN:=Lib.hid hn;clear h hx hn;go_enter Tryz.func46,Tryz.ntmps46;go_wp2_with fail;refine (Ca bv l (UInt64.ofNat n) w H.out (by omega)).mono ?_;rintro e w1 ⟨u,rfl,O1,b1⟩;have aC:=Lib.hid O1;have aD:=Lib.hid (By.up HX.out b1);have aA:(l++J9 (UInt64.ofNat n)).length≤1099511628000:=by simp;omega
 obtain⟨L,hL⟩:∃L,L=l++J9 (UInt64.ofNat n):=⟨_,rfl⟩;rw[←hL]at HE aA;have O2:Hid (J6 w1 w.heap.size u L):=Lib.hid (by rw[hL];exact O1);clear O1 aC hL hw;go_wp2_with (at_builtin;refine Tb _ w.heap.size _ L rfl _ _ rfl rfl O2.out _ rfl x 0 _ aD.out (by rw[←HN.out];omega) b1.size ?_;intro A2 c2 w2 aF aG aB aE aH aI);go_ret;rw[List.length_append]at aB;exact ⟨_,rfl,by rw[HE.out];exact aB,b1.trans aE⟩
theorem A5j (v:Value) (ls:List (List UInt8)) (w:World) (hp:M5 w w.heap.size v ls) (hsz:ls.flatten.length≤17592186044416) :
 Calls Tryz.prog 88 #[v] w fun e w'=>∃u,e=.returned u∧J6 w' w.heap.size u ls.flatten∧Below w.heap.size w w':=by
 have H:=Lib.hid hp;clear hp;go_enter Tryz.func88,Tryz.ntmps88;go_wp2_with fail;refine (Rt v ls w H.out hsz).mono ?_;rintro e w1 ⟨u,rfl,O1,b1⟩;have O:=Lib.hid O1;clear O1;go_wp2_with fail;go_ret;exact ⟨_,rfl,O.out,b1⟩
def Er:List UInt8:=[119,105,116,97,110]
def Hf (tag:UInt8) (body:List UInt8):List UInt8:=A3f (Er++[tag]) body
theorem A8g (tag:UInt8) (body:List UInt8):(Hf tag body).length=14+body.length:=by unfold Hf;rw[Fr];simp[Er]
theorem A7j:(Er.map v8).toArray=#[.int .u8 119,.int .u8 105,.int .u8 116,.int .u8 97,.int .u8 110]:=by kernel_rfl
theorem B2v (tag:UInt8) (xv:Value) (x:List UInt8) (w:World) (hx:By w 0 w.heap.size xv x) (hxl:x.length≤1099511627776) :
 Calls Tryz.prog 87 #[.int .u8 (n8 tag),xv] w fun e w'=>∃u,e=.returned u∧J6 w' w.heap.size u (Hf tag x)∧Below w.heap.size w w':=by
 obtain⟨C,hC⟩:∃C:Array Value,C=#[.int .u8 119,.int .u8 105,.int .u8 116,.int .u8 97,.int .u8 110]:=⟨_,rfl⟩;have aG:C.toList=Er.map v8:=by rw[hC,←A7j]
 have aA:=Go.Lib.run_convert_bytes_const (P:=Tryz.prog) w 29 5 C 5 5 Tryz.underlying29 Tryz.underlying5;have aO:(convert 29 29 (.slice (some ⟨w.heap.size,0,none⟩) 5 5)).run Tryz.prog (w.alloc (.cells #[.int .u8 119,.int .u8 105,.int .u8 116,.int .u8 97,.int .u8 110] 5))=.ok (.slice (some ⟨w.heap.size,0,none⟩) 5 5) (w.alloc (.cells #[.int .u8 119,.int .u8 105,.int .u8 116,.int .u8 97,.int .u8 110] 5 (5,6))):=by rw[hC]at aA;exact aA
 have aH:Below w.heap.size w ((w.alloc (.cells #[.int .u8 119,.int .u8 105,.int .u8 116,.int .u8 97,.int .u8 110] 5 (5,6))).alloc (.cells #[.int .u8 (n8 tag)] 5)):=((Below.refl _ _).alloc (Nat.le_refl _) _).alloc (by simp) _;have aB:∀j u,(Er.map v8)[j]?=some u→((w.alloc (.cells #[.int .u8 119,.int .u8 105,.int .u8 116,.int .u8 97,.int .u8 110] 5 (5,6))).alloc (.cells #[.int .u8 (n8 tag)] 5)).cell? ⟨w.heap.size,j,none⟩=some u:=fun j u hj=>by
  refine Go.Lib.cell?_alloc_marked _ ?_;rw[cell_of_row _ w.heap.size j #[.int .u8 119,.int .u8 105,.int .u8 116,.int .u8 97,.int .u8 110] 5 (5,6) (heap_alloc_new w _),←hC,←Array.getElem?_toList,aG];exact hj
 have aC:∀j u,([v8 tag]:List Value)[j]?=some u→((w.alloc (.cells #[.int .u8 119,.int .u8 105,.int .u8 116,.int .u8 97,.int .u8 110] 5 (5,6))).alloc (.cells #[.int .u8 (n8 tag)] 5)).cell? ⟨w.heap.size+1,j,none⟩=some u:=fun j u hj=>by
  have h1:=cell_of_row _ (w.alloc (.cells #[.int .u8 119,.int .u8 105,.int .u8 116,.int .u8 97,.int .u8 110] 5 (5,6))).heap.size j #[.int .u8 (n8 tag)] 5 (0,0) (heap_alloc_new (w.alloc (.cells #[.int .u8 119,.int .u8 105,.int .u8 116,.int .u8 97,.int .u8 110] 5 (5,6))) (.cells #[.int .u8 (n8 tag)] 5));have e:(w.alloc (.cells #[.int .u8 119,.int .u8 105,.int .u8 116,.int .u8 97,.int .u8 110] 5 (5,6))).heap.size=w.heap.size+1:=by simp
  rw[e]at h1;rw[h1];simpa [v8] using hj
 obtain⟨i0,aI,aJ,aK,aL⟩:=info_parts B8m;have K1:Hid (some (⟨w.heap.size,0,none⟩:Addr)=none→(5:Nat)=0∧(5:Nat)=0):=Lib.hid (fun h=>by cases h);have K2:Hid ((Er.map v8).length=5*1):=Lib.hid (by decide);have K3:Hid (∀b:Addr,some (⟨w.heap.size,0,none⟩:Addr)=some b→∀j u,(Er.map v8)[j]?=some u→((w.alloc (.cells #[.int .u8 119,.int .u8 105,.int .u8 116,.int .u8 97,.int .u8 110] 5 (5,6))).alloc (.cells #[.int .u8 (n8 tag)] 5)).cell? (b.add j)=some u):=Lib.hid (fun b hb j u hj=>by injection hb with hb;subst hb;rw[Q4,Nat.zero_add];exact aB j u hj);have K5:Hid (∀j u,([v8 tag]:List Value)[j]?=some u→((w.alloc (.cells #[.int .u8 119,.int .u8 105,.int .u8 116,.int .u8 97,.int .u8 110] 5 (5,6))).alloc (.cells #[.int .u8 (n8 tag)] 5)).cell? ((⟨w.heap.size+1,0,none⟩:Addr).add j)=some u):=Lib.hid (fun j u hj=>by rw[Q4,Nat.zero_add];exact aC j u hj);have K6:Hid (∀u∈([v8 tag]:List Value),u.oneCell'=true):=Lib.hid (by intro u hu;simp at hu;subst hu;rfl);have HX:=Lib.hid hx;have HI:=Lib.hid aI;have aP:=Lib.hid aJ;have aQ:=Lib.hid aK;have aR:=Lib.hid aL;have HB:=Lib.hid aH;clear hx aI aJ aK aL aB aC hC aG aA aH;go_enter Tryz.func87,Tryz.ntmps87
 go_wp2_with (at_builtin;refine wpList_append_grows _ rfl _ _ 29 rfl 5 i0 _ 1 1 Tryz.underlying29 HI.out aP.out aQ.out aR.out rfl (by decide) (some ⟨w.heap.size,0,none⟩) 5 5 (Er.map v8) rfl K1.out K2.out K3.out ⟨w.heap.size+1,0,none⟩ 1 1 [v8 tag] rfl rfl K5.out K6.out (by decide) (by decide) (by decide) ?_;intro v' w2 aD aM);have aF:J6 w2 w.heap.size v' (Er++[tag]):=by
  refine J6.less ?_ HB.out.size;exact aD
 have aE:Below w.heap.size w w2:=HB.out.trans ((Below.refl _ _).grown aM HB.out.size (fun k hk=>by cases hk));obtain⟨A2,c2,rfl,_,_⟩:=aF.form;have aN:Hid (Er.length=5):=Lib.hid rfl;have HF:Hid (B5f w2 (.slice A2 (Er++[tag]).length c2) (Er++[tag])):=Lib.hid (.inr ⟨aF.up,by simp,by simp[aN.out]⟩);have aS:=Lib.hid (By.up HX.out aE);clear aF aD aM aO;go_wp2_with fail;refine (Rn _ _ (Er++[tag]) x w2 HF.out aS.out (by simp[aN.out]) hxl).mono ?_;rintro e w3 ⟨u,rfl,O3,b3⟩;have aT:=Lib.hid O3;clear O3;go_wp2_with fail;go_ret;exact ⟨_,rfl,J6.less aT.out aE.size,aE.trans (b3.mono aE.size)⟩
section
theorem By.formE {w:World} {B:Nat} {v:Value} {l:List UInt8} (h:By w 0 B v l):∃A n c,v=.slice A n c:=by
 obtain⟨A,c,rfl,_⟩:=h.open_;exact ⟨_,_,_,rfl⟩
theorem D5b {tag:UInt8} {body:List UInt8} (h:body.length≤1000000):[Hf tag body].flatten.length≤1000000000:=by simp[A8g];omega
noncomputable def Uh (seed:List UInt8) (tag:UInt8) (body:List UInt8):List UInt8:=Wq seed [Hf tag body]
noncomputable def Jc (key:List UInt8) (tag:UInt8) (body sig:List UInt8):Bool:=Eh key sig [Hf tag body]
@[simp, go_sem] theorem Le (seed : List UInt8) (tag : UInt8) (body : List UInt8) : (Uh seed tag body).length = 64 := A7r _ _
def byF (lo:Nat) (f:Nat→Option (List UInt8)):Fcts:=⟨fun _=>[],fun n l W=>match f n,l with
 | some b,[x]=>By W lo W.heap.size x.v b
 | _,_=>True⟩
def gBy (lo:Nat) (cut:TypeId→Option (List Nat)) (dyn:FuncId→Bool) (f:Nat→Option (List UInt8)):Cfg:=⟨cut,fun g=>if dyn g then some 0 else none,byF lo f⟩
def C6p {Φ:Fcts} {w:World} {f:FuncId} (args:(Nat→Nm)→Array Value) (n:Nat) (l:List UInt8) (pre:(Nat→Nm)→World→Prop) (h:∀μ W,Below w.heap.size w W→pre μ W→Calls Tryz.prog f (args μ) W fun e W'=>∃u,e=.returned u∧By W' W.heap.size W'.heap.size u l∧Below W.heap.size W W')
 (hf:∀μ x W,By W w.heap.size W.heap.size x.v l→Φ.at n (Xs μ n x) W):DC Tryz.prog Φ (fun W=>Below w.heap.size w W):=
 ⟨.call f args (fun μ=>(μ n).v) (some n) pre,fun μ W hS hp=>(h μ W hS hp).mono fun e W' ⟨u,e1,e2,e3⟩=>by
  obtain⟨A,n,c,rfl⟩:=(By.less e2 (Nat.zero_le _)).formE;exact ⟨⟨0,_,rfl⟩,by rw[e1];simp[Xs],e3,fun W'' hz he _=>hf μ _ W'' ((Sl.later e2 hz he).less hS.size)⟩,[Wo jnk rfl]⟩
theorem J6.ret {f:FuncId} {args:Array Value} {w:World} {l:List UInt8} (h:Calls Tryz.prog f args w fun e w'=>∃u,e=.returned u∧J6 w' w.heap.size u l∧Below w.heap.size w w'):Calls Tryz.prog f args w fun e w'=>∃u,e=.returned u∧By w' w.heap.size w'.heap.size u l∧Below w.heap.size w w':=h.mono fun e w' ⟨u,h1,h2,h3⟩=>⟨u,h1,h2.by_,h3⟩
set_option maxRecDepth 100000
theorem By.one' {w:World} {B:Nat} {v:Value} {l:List UInt8} (h:By w 0 B v l):v.oneCell'=true:=by obtain⟨A,n,c,rfl⟩:=h.formE;rfl
theorem C7g (seed:List UInt8) (tag:UInt8) (bv:Value) (body:List UInt8) (hs:seed.length=32) (w:World) (hb:By w 0 w.heap.size bv body) (hbl:body.length≤1000000):Calls Tryz.prog 38 #[A8 seed,.int .u8 (n8 tag),bv] w fun e w'=>e=.returned (A8 (Uh seed tag body))∧Below w.heap.size w w':=
 let g:=gBy w.heap.size Gc.cut (fun f=>f==87) fun n=>if n=5 then some (Hf tag body) else none
 F8 (g:=g) 60 [Jg seed 32 hs,Wo (.int .u8 (n8 tag)) rfl,Wo bv hb.one'] [
  C6p (fun _=>#[.int .u8 (n8 tag),bv]) 5 (Hf tag body) (fun _ _=>True) (fun _ W hS _=>J6.ret (B2v tag bv body W (hb.up hS) (by omega))) (fun _ _ _ h=>h),
  ⟨.call 86 (fun μ=>#[A8 seed,.slice (some ⟨(μ 6).b,0,none⟩) 1 1]) (fun _=>A8 (Uh seed tag body)) none (fun μ W=>Bk W (μ 6).b 29 [(μ 5).v]∧g.f.at 5 μ W∧True),fun μ W _ ⟨h6,h5,_⟩=>C4u seed _ [Hf tag body] hs W (h6.parts1 (By.less h5 (Nat.zero_le _))) (Nat.zero_lt_one) (by simp) (D5b hbl),[Jg (Uh seed tag body) 64 (Le _ _ _)]⟩] F2 Tryz.func38 (by kernel_rfl)
theorem C1s (key:List UInt8) (tag:UInt8) (bv:Value) (body:List UInt8) (sig:List UInt8) (hk:key.length=32) (hg:sig.length=64) (w:World) (hb:By w 0 w.heap.size bv body) (hbl:body.length≤1000000):Calls Tryz.prog 106 #[A8 key,.int .u8 (n8 tag),bv,A8 sig] w fun e w'=>e=.returned (.bool (Jc key tag body sig))∧Below w.heap.size w w':=
 let g:=gBy w.heap.size Gc.cut (fun f=>f==87) fun n=>if n=7 then some (Hf tag body) else none
 F8 (g:=g) 60 [Jg key 32 hk,Wo (.int .u8 (n8 tag)) rfl,Wo bv hb.one',Jg sig 64 hg] [
  C6p (fun _=>#[.int .u8 (n8 tag),bv]) 7 (Hf tag body) (fun _ _=>True) (fun _ W hS _=>J6.ret (B2v tag bv body W (hb.up hS) (by omega))) (fun _ _ _ h=>h),
  ⟨.call 164 (fun μ=>#[A8 key,A8 sig,.slice (some ⟨(μ 8).b,0,none⟩) 1 1]) (fun _=>.bool (Jc key tag body sig)) none (fun μ W=>Bk W (μ 8).b 29 [(μ 7).v]∧g.f.at 7 μ W∧True),fun μ W _ ⟨h6,h5,_⟩=>B3y key sig _ [Hf tag body] hk hg W (h6.parts1 (By.less h5 (Nat.zero_le _))) (Nat.zero_lt_one) (by simp) (D5b hbl),[Wo (.bool (Jc key tag body sig)) rfl]⟩] F2 Tryz.func106 (by kernel_rfl)
def Fk (v:Int):UInt64:=UInt64.ofNat (v % 18446744073709551616).toNat
theorem Vi (v:Int):IntKind.u64.wrap v=H6 (Fk v):=by
 unfold H6 Fk;rw[UInt64.toNat_ofNat'];simp only[IntKind.wrap,IntKind.bits,IntKind.signed,Bool.false_and,Bool.false_eq_true,if_false];omega
def Dw (ver:Int) (key:List UInt8):List UInt8:=[J9 (Fk ver),key].flatten
theorem Tz (ver:Int) {key:List UInt8} (h:key.length=32):(Dw ver key).length=40:=by simp[Dw,h]
theorem C9h (ver:Int) (key:List UInt8) (hk:key.length=32) (w:World):Calls Tryz.prog 39 #[.int .i64 ver,A8 key] w fun e w'=>∃u,e=.returned u∧By w' w.heap.size w'.heap.size u (Dw ver key)∧Below w.heap.size w w':=by
 let g:=gBy w.heap.size Gc.cut (fun f=>f==45||f==88) fun n=>if n=4 then some (J9 (Fk ver)) else if n=7 then some (Dw ver key) else none
 have h:=C6i (w:=w) (g:=g) (v:=fun μ=>(μ 7).v) (q:=fun lo μ W=>g.f.at 7 μ W∧True) (nf:=false) (args:=#[.int .i64 ver,A8 key]) 60 [Wo (.int .i64 ver) rfl,Jg key 32 hk] [
  C8f (s:=convert 3 104 (.int .i64 ver)) (v:=.int .u64 (H6 (Fk ver))) (fun W=>by rw[←Vi];rfl) [Wo (.int .u64 (H6 (Fk ver))) rfl],
  C6p (fun _=>#[.slice none 0 0,.int .u64 (H6 (Fk ver))]) 4 (J9 (Fk ver)) (fun _ _=>True) (fun _ W _ _=>J6.ret (Ca _ [] _ W (.inl ⟨rfl,rfl⟩) (by simp))) (fun _ _ _ h=>h),
  C6p (fun μ=>#[.slice (some ⟨(μ 6).b,0,none⟩) 2 2]) 7 (Dw ver key) (fun μ W=>Bk W (μ 6).b 29 [(μ 4).v,.slice (some ⟨(μ 0).b,0,none⟩) 32 32]∧Bk W (μ 0).b 35 (c8 key)∧g.f.at 4 μ W∧True) (fun μ W _ ⟨h6,h0,h4,_⟩=>J6.ret (A5j _ _ W (h6.parts rfl (by simp[maxLen]) (A6t (By.less h4 (Nat.zero_le _)) (h0.byAll hk (by decide)))) (by simp[hk]))) (fun _ _ _ h=>h)] F2 Tryz.func39 (by kernel_rfl)
 exact h.mono fun e w' ⟨μ,h1,h2,h3⟩=>⟨_,h1,(h3 w' ⟨Nat.le_refl _,fun _ _ _=>rfl⟩ (.inr h2)).1,h2⟩
end
section
structure UV where
 id:List UInt8
 ver:Int
 key:List UInt8
 sig:List UInt8
structure UV.Ok (u : UV) : Prop where
 id:u.id.length=32
 key:u.key.length=32
 sig:u.sig.length=64
def P9 (u:UV):List Value:=c8 u.id++(.int .i64 u.ver::(c8 u.key++c8 u.sig))
def UV.length (u:UV):Nat:=(P9 u).length
def Te (u:UV):Value:=.agg (P9 u).toArray
def Ic (_:Nat):UV:=⟨z8 32,0,z8 32,z8 64⟩
theorem UV.Ok.len {u:UV} (h:u.Ok):u.length=129:=by unfold UV.length P9;simp[h.id,h.key,h.sig]
theorem Cr (n:Nat):(Ic n).Ok:=⟨by simp[Ic],by simp[Ic],by simp[Ic]⟩
theorem Be (u:UV):(P9 u).length=u.length:=rfl
theorem Tp (u:UV):∀x∈P9 u,x.oneCell'=true:=by
 intro x hx;simp only[P9,List.mem_append,List.mem_cons]at hx;rcases hx with hx | rfl | hx | hx
 ·obtain⟨y,_,rfl⟩:=List.mem_map.1 hx;rfl
 ·rfl
 ·obtain⟨y,_,rfl⟩:=List.mem_map.1 hx;rfl
 ·obtain⟨y,_,rfl⟩:=List.mem_map.1 hx;rfl
theorem B9p:(Tryz.prog.info? 48).map (·.size)=some 129:=by kernel_rfl
theorem B9f:((Tryz.prog.info? 48).bind (·.zero))=some (Te (Ic 129)):=by kernel_rfl
theorem A3m:Tryz.prog.underlying 48=some (.struct (V9 Tryz.prog 48)):=by kernel_rfl
@[go_sem] theorem F3m (u : UV) : Value.agg (P9 u).toArray = Te u := rfl
@[go_sem] theorem E0k (t : TypeId) (w : World) (raw : Result Next) (u : UV) : Qi t w raw (Te u) = .ok (.value (.pointer (some ⟨w.heap.size, 0, none⟩))) (w.alloc (.cells (P9 u).toArray t)) := rfl
@[go_sem] theorem D6a (n : Nat) (w : World) (raw : Result Next) (a : Addr) (u : UV) : Z2 n w raw (.pointer (some a)) (Te u) =
 if u.length=n∧E4 w a n=true then .ok .skip (C5 w a (P9 u)) else raw:=by
 have h1:((P9 u).toArray.all (·.oneCell'))=true:=by rw[Array.all_eq_true'];intro x hx;exact Tp u x (by simpa using hx)
 unfold Te;rw[A2s,h1];simp only[List.size_toArray,true_and,Be]
section
variable (w : World) (ρ : Operand → Value) (dst : Option Tmp) (ty : TypeId) (pos : String) (after : Array Edge) (guard : Option (Nat × Bool))
@[go_sem ↓ high] theorem F2b:RL' 48 129:=LL' A3m B9p
@[go_sem ↓ high] theorem E9u:RS' 48 129:=SS' B9p
@[go_sem ↓ high] theorem E3l:RA' 48 (P9 (Ic 129)).toArray:=fun w ρ dst ty pos after guard=>P7 w ρ dst ty pos after guard 48 (Te (Ic 129)) B9f
@[go_sem ↓ high] theorem F2k:RB' 48:=BX' _
end
theorem C2q (w:World):(Fh (V9 Tryz.prog 48)).run Tryz.prog w=.ok #[(0,32),(32,1),(33,32),(65,64)] w:=by kernel_rfl
section
variable {w : World} {g : Nat} {t : TypeId} {u m : UV} {n : Nat}
theorem Bk.rowvc (K:Bk w g t (P9 u)) (hu:u.length=n):C6 w ⟨g,0,none⟩ n=some (P9 u):=by have:=K.rows;rwa [Be,hu]at this
theorem Bk.canvc (K:Bk w g t (P9 u)) (hu:u.length=n):E4 w ⟨g,0,none⟩ n=true:=K.can (by rw[Be,hu];omega)
theorem Bk.putvc (K:Bk w g t (P9 u)) (hu:u.length=n) (hm:m.length=n):Bk (C5 w ⟨g,0,none⟩ (P9 m)) g t (P9 m):=K.puts (by rw[Be,Be,hu,hm])
theorem UV.loadid (K:Bk w g t (P9 u)) (h:u.Ok):C6 w ⟨g,0,none⟩ 32=some (c8 u.id):=by
 rw[K.rowMid 0 32 (by rw[Be,h.len];decide)];simp[P9,h.id]
theorem UV.loadver (K:Bk w g t (P9 u)) (h:u.Ok):w.cell? ⟨g,32,none⟩=some (.int .i64 u.ver):=by
 refine K.at_ ?_;simp[P9,h.id]
theorem UV.loadkey (K:Bk w g t (P9 u)) (h:u.Ok):C6 w ⟨g,33,none⟩ 32=some (c8 u.key):=by
 rw[K.rowMid 33 32 (by rw[Be,h.len];decide)];simp[P9,h.id,h.key,List.drop_append,List.drop_eq_nil_of_le]
theorem UV.loadsig (K:Bk w g t (P9 u)) (h:u.Ok):C6 w ⟨g,65,none⟩ 64=some (c8 u.sig):=by
 rw[K.rowMid 65 64 (by rw[Be,h.len];decide)];simp[P9,h.id,h.key,h.sig,List.drop_append,List.drop_eq_nil_of_le,List.take_of_length_le]
end
end
section
theorem C3h (seed:List UInt8) (bv:Value) (body:List UInt8) (hs:seed.length=32) (w:World) (hb:By w 0 w.heap.size bv body) (hbl:body.length≤1000000):Calls Tryz.prog 38 #[A8 seed,.int .u8 1,bv] w fun e w'=>e=.returned (A8 (Uh seed 1 body))∧Below w.heap.size w w':=C7g seed 1 bv body hs w hb hbl
theorem B4a (key:List UInt8) (bv:Value) (body sig:List UInt8) (hk:key.length=32) (hg:sig.length=64) (w:World) (hb:By w 0 w.heap.size bv body) (hbl:body.length≤1000000):Calls Tryz.prog 106 #[A8 key,.int .u8 1,bv,A8 sig] w fun e w'=>e=.returned (.bool (Jc key 1 body sig))∧Below w.heap.size w w':=C1s key 1 bv body sig hk hg w hb hbl
def D5g {Φ:Fcts} {w:World} (ver:Int) (key:List UInt8) (hk:key.length=32) (n:Nat) (hf:∀μ x W,By W w.heap.size W.heap.size x.v (Dw ver key)→Φ.at n (Xs μ n x) W):DC Tryz.prog Φ (fun W=>Below w.heap.size w W):=
 C6p (fun _=>#[.int .i64 ver,A8 key]) n (Dw ver key) (fun _ _=>True) (fun _ W _ _=>C9h ver key hk W) hf
def gBd (lo n:Nat) (ver:Int) (key:List UInt8):Cfg:=gBy lo (fun t=>if t=48 then some [32,1,32,64] else Gc.cut t) (fun f=>f==39) fun m=>if m=n then some (Dw ver key) else none
noncomputable def mkU (seed:List UInt8) (ver:Int) (key:List UInt8):UV:=⟨Ac seed,ver,key,Uh seed 1 (Dw ver key)⟩
theorem C3y (seed:List UInt8) (ver:Int) {key:List UInt8} (hk:key.length=32):(mkU seed ver key).Ok:=⟨Hh _,hk,Le _ _ _⟩
set_option maxRecDepth 100000
theorem A9n (seed:List UInt8) (ver:Int) (key:List UInt8) (hs:seed.length=32) (hk:key.length=32) (w:World):Calls Tryz.prog 12 #[A8 seed,.int .i64 ver,A8 key] w fun e w'=>e=.returned (Te (mkU seed ver key))∧Below w.heap.size w w':=
 F8 (g:=gBd w.heap.size 10 ver key) 60 [Jg seed 32 hs,Wo (.int .i64 ver) rfl,Jg key 32 hk] [dH (B6n seed hs) (Hh _),D5g ver key hk 10 (fun _ _ _ h=>h),
  ⟨.call 38 (fun μ=>#[A8 seed,.int .u8 1,(μ 10).v]) (fun _=>A8 (Uh seed 1 (Dw ver key))) none (fun μ W=>(gBd w.heap.size 10 ver key).f.at 10 μ W∧True),fun μ W _ ⟨h,_⟩=>C3h seed _ _ hs W (By.less h (Nat.zero_le _)) (by rw[Tz _ hk];decide),[Jg (Uh seed 1 (Dw ver key)) 64 (Le _ _ _)]⟩] F2 Tryz.func12 (by kernel_rfl)
end
section
noncomputable def signedB (u:UV):Bool:=decide (1≤u.ver)&&(decide (u.ver≤64)&&Jc u.id 1 (Dw u.ver u.key) u.sig)
theorem B6v {u:UV} (h:decide (1≤u.ver)=false):signedB u=false:=by unfold signedB;rw[h,Bool.false_and]
theorem B5h {u:UV} (h:decide (u.ver≤64)=false):signedB u=false:=by unfold signedB;rw[h,Bool.false_and,Bool.and_false]
theorem A2b {u:UV} (h:decide (1≤u.ver)=true) (h2:decide (u.ver≤64)=true):signedB u=Jc u.id 1 (Dw u.ver u.key) u.sig:=by unfold signedB;rw[h,h2,Bool.true_and,Bool.true_and]
set_option maxRecDepth 100000
theorem B7r (u:UV) (hu:u.Ok) (w:World):Calls Tryz.prog 58 #[Te u] w fun e w'=>e=.returned (.bool (signedB u))∧Below w.heap.size w w':=by
 obtain⟨hi,hk,hs⟩:=hu;let ρ:List Av:=[Jg u.id 32 hi,Wo (.int .i64 u.ver) rfl,Jg u.key 32 hk,Jg u.sig 64 hs]
 let g:=gBd w.heap.size 17 u.ver u.key
 let dGe (b:Bool) (hb:decide (1≤u.ver)=b):DC Tryz.prog g.f (fun W=>Below w.heap.size w W):=Tu (op:=.geq) (t:=3) (x:=.int .i64 u.ver) (y:=.int .i64 1) (v:=.bool b) (fun X Y W=>by rw[←hb];rfl) rfl
 let dLe (b:Bool) (hb:decide (u.ver≤64)=b):DC Tryz.prog g.f (fun W=>Below w.heap.size w W):=Tu (op:=.leq) (t:=3) (x:=.int .i64 u.ver) (y:=.int .i64 64) (v:=.bool b) (fun X Y W=>by rw[←hb];rfl) rfl
 cases h1:decide (1≤u.ver) with
 | false=>rw[B6v h1];exact F8 (g:=g) 60 ρ [dGe false h1] F2 Tryz.func58 (by kernel_rfl)
 | true=>cases h2:decide (u.ver≤64) with
  | false=>rw[B5h h2];exact F8 (g:=g) 60 ρ [dGe true h1,dLe false h2] F2 Tryz.func58 (by kernel_rfl)
  | true=>
   rw[A2b h1 h2];exact F8 (g:=g) 60 ρ [dGe true h1,dLe true h2,D5g u.ver u.key hk 17 (fun _ _ _ h=>h),
    ⟨.call 106 (fun μ=>#[A8 u.id,.int .u8 1,(μ 17).v,A8 u.sig]) (fun _=>.bool (Jc u.id 1 (Dw u.ver u.key) u.sig)) none (fun μ W=>g.f.at 17 μ W∧True),fun μ W _ ⟨h,_⟩=>B4a u.id _ _ u.sig hi hs W (By.less h (Nat.zero_le _)) (by rw[Tz _ hk];decide),[Wo (.bool (Jc u.id 1 (Dw u.ver u.key) u.sig)) rfl]⟩] F2 Tryz.func58 (by kernel_rfl)
end
end Go.Proofs.YtdfpoofbgjilgaaGreat
