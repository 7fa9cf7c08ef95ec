/- A part of the proof of ClientForks. -/
import Derived.Lib.SlBytesConst
import Derived.Test.YtdfpoofbgjilgaaGreatVas
set_option linter.unusedVariables false
set_option linter.unusedSimpArgs false
set_option maxRecDepth 100000
set_option maxHeartbeats 40000000
namespace Go.Proofs.YtdfpoofbgjilgaaGreat
open Go Go.RowKit Sh
section
theorem Bk.parts {w:World} {g:Nat} {t:TypeId} {vs:List Value} {ls:List (List UInt8)} (K:Bk w g t vs) (hl:vs.length=ls.length) (hn:vs.length≤maxLen) (h:∀(i:Nat) (x:Value) (l:List UInt8),vs[i]?=some x→ls[i]?=some l→By w 0 w.heap.size x l) :
 J9 w w.heap.size (.slice (some ⟨g,0,none⟩) vs.length vs.length) ls:=
 ⟨vs,⟨some ⟨g,0,none⟩,vs.length,rfl,Nat.le_refl _,hn,.inr ⟨g,0,rfl,Nat.zero_le _,K.lt,fun j u hj=>K.at_ (by simpa using hj)⟩⟩,hl,h⟩
theorem Bk.parts1 {w:World} {g:Nat} {t:TypeId} {v:Value} {l:List UInt8} (K:Bk w g t [v]) (h:By w 0 w.heap.size v l):J9 w w.heap.size (.slice (some ⟨g,0,none⟩) 1 1) [l]:=
 K.parts (vs:=[v]) (ls:=[l]) rfl (by simp[maxLen]) fun i x m hx hm=>by
  match i with
  | 0=>simp at hx hm;subst hx hm;exact h
  | i+1=>simp at hx
def Zb (ls:List (List UInt8)):List UInt8:=Ww ls.flatten
@[simp, go_sem] theorem Nw (ls : List (List UInt8)) : (Zb ls).length = 64 := Tg _
def A0l (ls:List (List UInt8)):List UInt64:=Xz ls.flatten
@[simp, go_sem] theorem Fe (ls : List (List UInt8)) : (A0l ls).length = 4 := A2h _
theorem B2q (vp:Value) (ls:List (List UInt8)) (w:World) (hp:J9 w w.heap.size vp ls) (hsz:ls.flatten.length≤1099511627776):Calls Tryz.prog 129 #[vp] w fun e w'=>e=.returned (F8 (A0l ls))∧Below w.heap.size w w':=B4i vp ls w hp hsz
def b64 (l:List UInt8):Value:=.agg (c8 [g8 l 0]++(c8 ((l.drop 1).take 30)++(c8 [g8 l 31]++c8 (l.drop 32)))).toArray
theorem B9q {l:List UInt8} (hl:l.length=64):A8 l=b64 l:=by
 have h1:l=[g8 l 0]++((l.drop 1).take 30++([g8 l 31]++l.drop 32)):=by
  apply List.ext_getElem?;intro i;rcases Nat.lt_or_ge i 64 with h | h
  ·have:i=0∨(1≤i∧i<31)∨i=31∨32≤i:=by omega
   rcases this with rfl | ⟨h2,h3⟩ | rfl | h2
   ·simp[g8,List.getD_eq_getElem?_getD,hl]
   ·rw[List.getElem?_append_right (by simpa using h2),List.getElem?_append_left (by simp;omega)];simp[List.getElem?_take,List.getElem?_drop];rw[if_pos (by omega)];congr 1;omega
   ·rw[List.getElem?_append_right (by simp),List.getElem?_append_right (by simp;omega)];simp[g8,List.getD_eq_getElem?_getD,hl]
   ·rw[List.getElem?_append_right (by simp;omega),List.getElem?_append_right (by simp;omega),List.getElem?_append_right (by simp;omega)];simp[List.getElem?_drop,hl];congr 1;omega
  ·rw[List.getElem?_eq_none (by omega),List.getElem?_eq_none (by simp;omega)]
 unfold A8 b64;conv=>lhs;rw[h1]
 simp[c8]
def gS:Cfg:=⟨fun t=>if t=46 then some [1,30,1,32] else none,fun _=>none,noF⟩
def D7e (l:List UInt8) (b:Nat):Value:=.tuple #[.agg (c8 [g8 l 0 &&& 248]++(c8 ((l.drop 1).take 30)++c8 [g8 l 31 &&& 127 ||| 64])).toArray,.slice (some ⟨b,32,none⟩) 32 32]
set_option maxRecDepth 100000
theorem B1x (seed:List UInt8) (hs:seed.length=32) (w:World):Calls Tryz.prog 70 #[A8 seed] w fun e w'=>∃g,e=.returned (D7e (Zb [seed]) g)∧Below w.heap.size w w'∧w.heap.size≤g∧∀W,B0x w w' W→Bk W g 46 (c8 (Zb [seed])):=by
 let L:=Zb [seed]
 have hL:L.length=64:=Nw [seed];have aA:((L.drop 1).take 30).length=30:=by simp[hL]
 have aB:(L.drop 32).length=32:=by simp[hL]
 let ds:DL w:=[⟨.call 111 (fun μ=>#[.slice (some ⟨(μ 4).b,0,none⟩) 1 1]) (fun _=>b64 L) none (fun μ W=>Bk W (μ 4).b 29 [.slice (some ⟨(μ 0).b,0,none⟩) 32 32]∧Bk W (μ 0).b 35 (c8 seed)∧True),
  fun μ W _ ⟨h4,h0,_⟩=>by rw[←B9q hL];exact A0m _ [seed] W (h4.parts1 (h0.byAll hs (by decide))) (by simp[hs]),[Je [g8 L 0] 1 rfl,Je ((L.drop 1).take 30) 30 aA,Je [g8 L 31] 1 rfl,Je (L.drop 32) 32 aB]⟩,
  C3s (g8 L 0) 248,C3s (g8 L 31) 127,dOr (g8 L 31 &&& 127) 64]
 have h:=C8c (g:=gS) (v:=fun μ=>D7e L (μ 6).b) (q:=fun lo μ W=>(Bk W (μ 6).b 46 (c8 [g8 L 0]++(c8 ((L.drop 1).take 30)++(c8 [g8 L 31]++c8 (L.drop 32))))∧lo≤(μ 6).b)∧True) (nf:=true) (args:=#[A8 seed]) 60 [Je seed 32 hs] ds F9 Tryz.func70 (by kernel_rfl);refine h.mono fun e w' ⟨μ,h1,h2,h3⟩=>⟨(μ 6).b,h1,h2,(h3 w' ⟨Nat.le_refl _,fun _ _ _=>rfl⟩ (.inl rfl)).1.2,fun W hW=>?_⟩;have h4:=(h3 W hW (.inl rfl)).1.1;have h5:c8 (Zb [seed])=c8 [g8 L 0]++(c8 ((L.drop 1).take 30)++(c8 [g8 L 31]++c8 (L.drop 32))):=List.toArray_inj (Value.agg.inj (B9q hL));rw[h5];exact h4
def Ib (seed:List UInt8):List UInt8:=(g8 (Zb [seed]) 0 &&& 248)::(((Zb [seed]).drop 1).take 30++[g8 (Zb [seed]) 31 &&& 127 ||| 64])
@[simp, go_sem] theorem Fc (seed : List UInt8) : (Ib seed).length = 32 := by simp [Ib, Nw]
theorem C0p (seed:List UInt8) (b:Nat):D7e (Zb [seed]) b=.tuple #[A8 (Ib seed),.slice (some ⟨b,32,none⟩) 32 32]:=by simp[D7e,Ib,A8,c8]
def gP:Cfg:=⟨Fy.cut,fun f=>if f=70 then some 1 else none,noF⟩
def F5q (seed:List UInt8) (hs:seed.length=32) (n:Nat) {w:World}:DC1 w:=
 ⟨.call 70 (fun _=>#[A8 seed]) (fun μ=>.tuple #[A8 (Ib seed),(μ n).v]) (some n) (fun _ _=>True),
  fun μ W _ _=>(B1x seed hs W).mono fun e w' ⟨g,h1,h2,_⟩=>⟨⟨0,.slice (some ⟨g,32,none⟩) 32 32,rfl⟩,by rw[h1,C0p];simp[Xm],h2,fun _ _ _ _=>trivial⟩,[Je (Ib seed) 32 (Fc seed),Wo jnk rfl]⟩
noncomputable def X0 (seed:List UInt8):List UInt8:=Eh (Ur U6 (Ib seed))
@[simp, go_sem] theorem Dv (seed : List UInt8) : (X0 seed).length = 32 := U7 _
theorem A2r (seed:List UInt8) (hs:seed.length=32) (w:World):Calls Tryz.prog 28 #[A8 seed] w fun e w'=>e=.returned (A8 (X0 seed))∧Below w.heap.size w w':=by
 have hm:∀W,Calls Tryz.prog 72 #[U6.val,A8 (Ib seed)] W fun e W'=>e=.returned (Ur U6 (Ib seed)).val∧Below W.heap.size W W':=fun W=>by
  have h:=A9y U6 (Ib seed) Q2 (Fc seed) W;simp only[Pn.seg]at h;exact h
 exact H7 (g:=gP) 60 [Je seed 32 hs] [F5q seed hs 3,dP Vv Q2,dP hm (Pd Q2 _),dH (Uq (Ur U6 (Ib seed)) (Pd Q2 _)) (U7 _)] F9 Tryz.func28 (by kernel_rfl)
def A7y (seed:List UInt8):List UInt8:=(Zb [seed]).drop 32
@[simp, go_sem] theorem D1t (seed : List UInt8) : (A7y seed).length = 32 := by simp [A7y]
def Kt (a:List UInt8):List UInt64:=A1l (a++z8 32)
theorem Ow (a:List UInt8):(Kt a).length=4:=Gk _
theorem B7s (a:List UInt8) (ha:a.length=32) (w:World):Calls Tryz.prog 134 #[A8 a] w fun e w'=>e=.returned (F8 (Kt a))∧Below w.heap.size w w':=
 H7 (g:=Fy) 60 [Je a 32 ha] [dR (args:=#[.agg (c8 a++c8 (z8 32)).toArray]) 4 (fun W=>by rw[show Value.agg (c8 a++c8 (z8 32)).toArray=A8 (a++z8 32) by simp[A8,c8]];exact A5g (a++z8 32) (by simp[ha]) W) (Gk _)] F9 Tryz.func134 (by kernel_rfl)
end
section
noncomputable def sgR (seed:List UInt8) (ps:List (List UInt8)):List UInt64:=A0l (A7y seed::ps)
noncomputable def sgF (seed:List UInt8) (ps:List (List UInt8)):List UInt8:=Eh (Ur U6 (Bt (sgR seed ps)))
noncomputable def sgK (seed:List UInt8) (ps:List (List UInt8)):List UInt64:=A0l (sgF seed ps::X0 seed::ps)
noncomputable def sgS (seed:List UInt8) (ps:List (List UInt8)):List UInt8:=Bt (B7o (sgR seed ps) (B7n (sgK seed ps) (Kt (Ib seed))))
noncomputable def Pz (seed:List UInt8) (ps:List (List UInt8)):List UInt8:=sgF seed ps++sgS seed ps
theorem A2e (seed:List UInt8) (ps:List (List UInt8)):(sgF seed ps).length=32:=U7 _
theorem B4j (seed:List UInt8) (ps:List (List UInt8)):(sgS seed ps).length=32:=Z2 _
theorem A7v (seed:List UInt8) (ps:List (List UInt8)):(Pz seed ps).length=64:=by simp[Pz,A2e,B4j]
theorem Bk.sl {w:World} {g:Nat} {t:TypeId} {vs:List Value} {n:Nat} (K:Bk w g t vs) (hl:vs.length=n) (hn:n≤maxLen):Sl w 0 w.heap.size (.slice (some ⟨g,0,none⟩) n n) vs:=
 ⟨some ⟨g,0,none⟩,n,by rw[hl],Nat.le_of_eq hl,hn,.inr ⟨g,0,rfl,Nat.zero_le _,K.lt,fun j u hj=>K.at_ (by simpa using hj)⟩⟩
theorem Sl.later {w w' W:World} {v:Value} {cs:List Value} (h:Sl w' w.heap.size w'.heap.size v cs) (hz:w'.heap.size≤W.heap.size) (he:∀k,w.heap.size≤k→k<w'.heap.size→W.heap[k]?=w'.heap[k]?):Sl W w.heap.size W.heap.size v cs:=by
 obtain⟨A,c,h1,h2,h3,h4⟩:=h;refine ⟨A,c,h1,h2,h3,?_⟩;rcases h4 with h | ⟨g,o,rfl,hl,hb,hc⟩
 ·exact .inl h
 ·refine .inr ⟨g,o,rfl,hl,Nat.lt_of_lt_of_le hb hz,fun j u hj=>?_⟩;have:=hc j u hj;rw[←this];unfold World.cell?;rw[he g hl hb]
section
variable {Φ : Fcts} {w : World}
def C9i (vp:Value) (vs:List Value) (b n k:Nat) (t:TypeId) (ms:(Nat→Nm)→List Value) (pre:(Nat→Nm)→World→Prop) (hs:Sl w 0 w.heap.size vp vs) (h1:∀u∈vs,u.oneCell'=true) (h0:0<vs.length) (hz:k+vs.length≤1000000) (hk:∀μ,(ms μ).length=k)
 (hp:∀μ W,pre μ W→Bk W (μ b).b t (ms μ)) (hf:∀μ x W,Sl W 0 W.heap.size x.v (ms μ++vs)→Φ.at n (Xm μ n x) W):DC Tryz.prog Φ (fun W=>Below w.heap.size w W):=
 ⟨.call 130 (fun μ=>#[vp,.slice (some ⟨(μ b).b,0,none⟩) k k]) (fun μ=>(μ n).v) (some n) pre,fun μ W hS hpre=>by
  have hk':=hk μ;subst hk';refine (C8m (μ b).b 0 _ vp (ms μ) vs W ((hp μ W hpre).sl rfl (by simp only[maxLen];omega)) ((hs.below hS).more hS.size) h1 h0 hz).mono fun e W' ⟨v,e1,e2,e3⟩=>?_;obtain⟨A,c,e4,_⟩:=id e2;exact ⟨⟨0,v,by rw[e4];rfl⟩,by rw[e1];simp[Xm],e3,fun W'' hz he hS'=>hf μ _ W'' ((e2.later hz he).less (Nat.zero_le _))⟩,[Wo jnk rfl]⟩
def E0a (ls:List (List UInt8)) (n:Nat) (pre:(Nat→Nm)→World→Prop) (hz:ls.flatten.length≤1099511627776) (hp:∀μ W,Below w.heap.size w W→pre μ W→J9 W W.heap.size (μ n).v ls):DC Tryz.prog Φ (fun W=>Below w.heap.size w W):=
 ⟨.call 129 (fun μ=>#[(μ n).v]) (fun _=>F8 (A0l ls)) none pre,fun μ W hS hpre=>B2q _ ls W (hp μ W hS hpre) hz,[Bj (A0l ls) 4 (Fe ls)]⟩
end
theorem D1m (seed:List UInt8) (hs:seed.length=32) (W:World):Calls Tryz.prog 72 #[U6.val,A8 seed] W fun e W'=>e=.returned (Ur U6 seed).val∧Below W.heap.size W W':=by
 have h:=A9y U6 seed Q2 hs W;simp only[Pn.seg]at h;exact h
theorem Md {w W:World} {v:Value} {ms vs:List Value} {ls ps:List (List UInt8)} (hl:vs.length=ps.length) (he:∀(i:Nat) (x:Value) (l:List UInt8),vs[i]?=some x→ps[i]?=some l→By w 0 w.heap.size x l) (hS:Below w.heap.size w W)
 (h:Sl W 0 W.heap.size v (ms++vs)) (hm:ms.length=ls.length) (h3:∀(i:Nat) (x:Value) (l:List UInt8),ms[i]?=some x→ls[i]?=some l→By W 0 W.heap.size x l):J9 W W.heap.size v (ls++ps):=
 J9.join hm hl h (Below.refl _ _) h3 fun i x l hx hl=>(he i x l hx hl).up hS
def F7q (L:List UInt8) (vs:List Value):Fcts:=⟨fun n=>if n=19 then [3] else if n=34 then [28,14] else [],fun n l W=>match n,l with
 | 3,[x]=>∃g,x.v=.slice (some ⟨g,32,none⟩) 32 32∧Bk W g 46 (c8 L)
 | 19,[x,y]=>Sl W 0 W.heap.size x.v ([y.v]++vs)
 | 34,[x,y,z]=>Sl W 0 W.heap.size x.v ([.slice (some ⟨y.b,0,none⟩) 32 32,.slice (some ⟨z.b,0,none⟩) 32 32]++vs)
 | _,_=>True⟩
def gSg (L:List UInt8) (vs:List Value):Cfg:=⟨Fy.cut,fun f=>if f=70 then some 1 else if f=130 then some 0 else none,F7q L vs⟩
theorem A7n {w:World} {x y:Value} {l m:List UInt8} (h1:By w 0 w.heap.size x l) (h2:By w 0 w.heap.size y m) (i:Nat) (z:Value) (k:List UInt8) (hz:[x,y][i]?=some z) (hk:[l,m][i]?=some k):By w 0 w.heap.size z k:=by
 match i with
 | 0=>simp at hz hk;subst hz hk;exact h1
 | 1=>simp at hz hk;subst hz hk;exact h2
 | i+2=>simp at hz
theorem C1d {w:World} {x:Value} {l:List UInt8} (h1:By w 0 w.heap.size x l) (i:Nat) (z:Value) (k:List UInt8) (hz:[x][i]?=some z) (hk:[l][i]?=some k):By w 0 w.heap.size z k:=by
 match i with
 | 0=>simp at hz hk;subst hz hk;exact h1
 | i+1=>simp at hz
set_option maxRecDepth 100000
theorem C7z (seed:List UInt8) (vp:Value) (ps:List (List UInt8)) (hs:seed.length=32) (w:World) (hp:J9 w w.heap.size vp ps) (hp0:0<ps.length) (hpl:ps.length≤1000) (hpf:ps.flatten.length≤1000000000):Calls Tryz.prog 86 #[A8 seed,vp] w fun e w'=>e=.returned (A8 (Pz seed ps))∧Below w.heap.size w w':=by
 obtain⟨vs,hv,hl,he⟩:=hp;have h1:=J9.one_cells hl he;have aC:vp.oneCell'=true:=by obtain⟨A,c,rfl,_⟩:=hv;rfl
 let L:=Zb [seed]
 have hL:L.length=64:=Nw _;have hF:(sgF seed ps).length=32:=A2e seed ps;have hP:(X0 seed).length=32:=Dv seed;have aA:A8 (Pz seed ps)=.agg (c8 (sgF seed ps)++c8 (sgS seed ps)).toArray:=by simp[Pz,A8,c8]
 rw[aA];have aB:∀μ W,Below w.heap.size w W→(gSg L vs).f.at 3 μ W→By W 0 W.heap.size (μ 3).v (A7y seed):=fun μ W _ ⟨g,e,K⟩=>by
  have e':(μ 3).v=.slice (some ⟨g,32,none⟩) 32 32:=e;rw[e'];exact K.by 32 32 32 (by omega) (Nat.le_refl _) (by decide) (by simp[A7y,L,List.take_of_length_le])
 let ds:List (DC Tryz.prog (gSg L vs).f (fun W=>Below w.heap.size w W)):=[
  ⟨.call 70 (fun _=>#[A8 seed]) (fun μ=>.tuple #[A8 (Ib seed),(μ 3).v]) (some 3) (fun _ _=>True),
   fun μ W _ _=>(B1x seed hs W).mono fun e w' ⟨g,h1,h2,_,h3⟩=>⟨⟨0,.slice (some ⟨g,32,none⟩) 32 32,rfl⟩,by rw[h1,C0p];simp[Xm],h2,fun W hz he _=>⟨g,rfl,h3 W ⟨hz,he⟩⟩⟩,[Je (Ib seed) 32 (Fc seed),Wo jnk rfl]⟩,
  dP Vv Q2,dP (D1m (Ib seed) (Fc seed)) (Pd Q2 _),dH (Uq (Ur U6 (Ib seed)) (Pd Q2 _)) (U7 _),
  C9i vp vs 18 19 1 29 (fun μ=>[(μ 3).v]) (fun μ W=>Bk W (μ 18).b 29 [(μ 3).v]∧(gSg L vs).f.at 3 μ W∧True) hv h1 (by omega) (by omega) (fun _=>rfl) (fun _ _ h=>h.1) (fun _ _ _ h=>h),
  E0a (A7y seed::ps) 19 (fun μ W=>(gSg L vs).f.at 19 μ W∧(gSg L vs).f.at 3 μ W∧True) (by rw[List.flatten_cons,List.length_append,D1t];omega) (fun μ W hS ⟨h19,h3,_⟩=>Md (ms:=[(μ 3).v]) (ls:=[A7y seed]) hl he hS h19 rfl (C1d (aB μ W hS h3))),
  dP Vv Q2,dH (Pb (sgR seed ps) (Fe _)) (Z2 _),dP (D1m (Bt (sgR seed ps)) (Z2 _)) (Pd Q2 _),dH (Uq (Ur U6 (Bt (sgR seed ps))) (Pd Q2 _)) (U7 _),
  C9i vp vs 33 34 2 29 (fun μ=>[.slice (some ⟨(μ 28).b,0,none⟩) 32 32,.slice (some ⟨(μ 14).b,0,none⟩) 32 32]) (fun μ W=>Bk W (μ 33).b 29 [.slice (some ⟨(μ 28).b,0,none⟩) 32 32,.slice (some ⟨(μ 14).b,0,none⟩) 32 32]∧Bk W (μ 28).b 35 (c8 (sgF seed ps))∧Bk W (μ 14).b 35 (c8 (X0 seed))∧True) hv h1 (by omega) (by omega) (fun _=>rfl) (fun _ _ h=>h.1) (fun _ _ _ h=>h),
  E0a (sgF seed ps::X0 seed::ps) 34 (fun μ W=>Bk W (μ 28).b 35 (c8 (sgF seed ps))∧Bk W (μ 14).b 35 (c8 (X0 seed))∧(gSg L vs).f.at 34 μ W∧True) (by rw[List.flatten_cons,List.length_append,List.flatten_cons,List.length_append,hF,hP];omega) (fun μ W hS ⟨h28,h14,h34,_⟩=>Md (ms:=[.slice (some ⟨(μ 28).b,0,none⟩) 32 32,.slice (some ⟨(μ 14).b,0,none⟩) 32 32]) (ls:=[sgF seed ps,X0 seed]) hl he hS h34 rfl (A7n (h28.byAll hF (by decide)) (h14.byAll hP (by decide)))),
  dR 4 (B7s (Ib seed) (Fc seed)) (Ow _),dR 4 (C7a (sgK seed ps) (Kt (Ib seed)) (Fe _) (Ow _)) (Wk _ _),dR 4 (C7x (sgR seed ps) (B7n (sgK seed ps) (Kt (Ib seed))) (Fe _) (Wk _ _)) (Wh _ _),dH (Pb (B7o (sgR seed ps) (B7n (sgK seed ps) (Kt (Ib seed)))) (Wh _ _)) (Z2 _)]
 exact H7 (g:=gSg L vs) 80 [Je seed 32 hs,Wo vp aC] ds F9 Tryz.func86 (by kernel_rfl)
end
section
noncomputable def vfK (key sig:List UInt8) (ps:List (List UInt8)):List UInt64:=A0l (E1 sig 0::key::ps)
noncomputable def vfH (key sig:List UInt8) (ps:List (List UInt8)):List UInt8:=Eh (A9w (Bt (Iu (E1 sig 32))) (A6h (Ci key)) (Bt (vfK key sig ps)))
noncomputable def Cy (key sig:List UInt8) (ps:List (List UInt8)):Bool:=Cq key&&(!Jb (Ci key)&&(Lr (E1 sig 32)&&vfH key sig ps==E1 sig 0))
theorem D4c {key:List UInt8} (h:Cq key=false):Oc key=50:=(Ym h).2
theorem C8o {key:List UInt8} (h:Cq key=true):Oc key=0:=if_pos h
theorem E0i {key sig:List UInt8} {ps:List (List UInt8)} (h:Cq key=false):Cy key sig ps=false:=by unfold Cy;rw[h,Bool.false_and]
theorem E1h {key sig:List UInt8} {ps:List (List UInt8)} (h:Jb (Ci key)=true):Cy key sig ps=false:=by unfold Cy;rw[h];simp
theorem E0l {key sig:List UInt8} {ps:List (List UInt8)} (h:Lr (E1 sig 32)=false):Cy key sig ps=false:=by unfold Cy;rw[h];simp
theorem E2i {key sig:List UInt8} {ps:List (List UInt8)} (h1:Cq key=true) (h2:Jb (Ci key)=false) (h3:Lr (E1 sig 32)=true):Cy key sig ps=(vfH key sig ps==E1 sig 0):=by unfold Cy;rw[h1,h2,h3,Bool.not_false,Bool.true_and,Bool.true_and,Bool.true_and]
theorem B6a (key sig:List UInt8) (ps:List (List UInt8)):(vfH key sig ps).length=32:=U7 _
def gVf (vs:List Value):Cfg:=⟨fun t=>if t=46 then some [32,32] else Fy.cut t,fun f=>if f=130 then some 0 else none,⟨fun n=>if n=33 then [1,0] else [],fun n l W=>match n,l with
 | 33,[x,y,z]=>Sl W 0 W.heap.size x.v ([.slice (some ⟨y.b,0,none⟩) 32 64,.slice (some ⟨z.b,0,none⟩) 32 32]++vs)
 | _,_=>True⟩⟩
set_option maxRecDepth 100000
theorem C4i {sig:List UInt8} (hg:sig.length=64):A8 sig=.agg (c8 (E1 sig 0)++c8 (E1 sig 32)).toArray:=by
 conv=>lhs;rw[←List.take_append_drop 32 sig]
 simp[A8,c8,E1,List.take_of_length_le,hg]
theorem B6e (key sig:List UInt8) (vp:Value) (ps:List (List UInt8)) (hk:key.length=32) (hg:sig.length=64) (w:World) (hp:J9 w w.heap.size vp ps) (hp0:0<ps.length) (hpl:ps.length≤1000) (hpf:ps.flatten.length≤1000000000):Calls Tryz.prog 164 #[A8 key,A8 sig,vp] w fun e w'=>e=.returned (.bool (Cy key sig ps))∧Below w.heap.size w w':=by
 obtain⟨vs,hv,hl,he⟩:=hp;have h1:=J9.one_cells hl he;have aB:vp.oneCell'=true:=by obtain⟨A,c,rfl,_⟩:=hv;rfl
 have hr:(E1 sig 0).length=32:=A7w hg 0 (by decide);have hs:(E1 sig 32).length=32:=A7w hg 32 (by decide);have aC:=C4i hg;rw[aC];let ρ:List Av:=[Je key 32 hk,Je (E1 sig 0) 32 hr,Je (E1 sig 32) 32 hs,Wo vp aB]
 let dDec:DC Tryz.prog (gVf vs).f (fun W=>Below w.heap.size w W):=⟨.call 194 (fun _=>#[A8 key]) (fun _=>.tuple #[(Ci key).val,.int .i64 (Oc key)]) none (fun _ _=>True),fun _ W _ _=>by have h:=B7h key hk W;simp only[Pn.seg]at h;exact h,(Ci key).av (Ul key)++[Wo (.int .i64 (Oc key)) rfl]⟩
 let dNeE (b:Bool) (hb:∀W,(binOp .neq 38 (.int .i64 (Oc key)) (.int .i64 0)).run Tryz.prog W=.ok (.bool b) W):DC Tryz.prog (gVf vs).f (fun W=>Below w.heap.size w W):=Sj (op:=.neq) (t:=38) (x:=.int .i64 (Oc key)) (y:=.int .i64 0) (v:=.bool b) (fun X Y W=>by simp only[Sem.run_bind,show (eqGuard .neq 38 X Y (.int .i64 (Oc key)) (.int .i64 0)).run Tryz.prog W=.ok () W from rfl,Result.andThen_ok,hb W]) rfl
 cases hd:Cq key with
 | false=>
  rw[E0i hd];exact H7 (g:=gVf vs) 80 ρ [dDec,dNeE true fun W=>by rw[D4c hd];rfl] F9 Tryz.func164 (by kernel_rfl)
 | true=>
  let dN:=dNeE false fun W=>by rw[C8o hd];rfl
  have aA:∀W,Calls Tryz.prog 195 #[(Ci key).val] W fun e W'=>e=.returned (.bool (Jb (Ci key)))∧Below W.heap.size W W':=fun W=>by have h:=B7l (Ci key) (Ul key) W;simp only[Pn.seg]at h;exact h
  cases hm:Jb (Ci key) with
  | true=>
   rw[E1h hm];rw[hm]at aA;exact H7 (g:=gVf vs) 80 ρ [dDec,dN,dB aA] F9 Tryz.func164 (by kernel_rfl)
  | false=>
   rw[hm]at aA;let dNew (b:Bool) (hb:Lr (E1 sig 32)=b):DC Tryz.prog (gVf vs).f (fun W=>Below w.heap.size w W):=⟨.call 196 (fun _=>#[A8 (E1 sig 32)]) (fun _=>.tuple #[F8 (Iu (E1 sig 32)),.bool b]) none (fun _ _=>True),fun _ W _ _=>by rw[←hb];exact D1a (E1 sig 32) hs W,[Bj (Iu (E1 sig 32)) 4 (Tq _),Wo (.bool b) rfl]⟩
   cases hn:Lr (E1 sig 32) with
   | false=>
    rw[E0l hn];exact H7 (g:=gVf vs) 80 ρ [dDec,dN,dB aA,dNew false hn] F9 Tryz.func164 (by kernel_rfl)
   | true=>
    rw[E2i hd hm hn];have aD:∀W,Calls Tryz.prog 197 #[A8 (Bt (Iu (E1 sig 32))),(A6h (Ci key)).val,A8 (Bt (vfK key sig ps))] W fun e W'=>e=.returned (A9w (Bt (Iu (E1 sig 32))) (A6h (Ci key)) (Bt (vfK key sig ps))).val∧Below W.heap.size W W':=fun W=>by have h:=C6s (Bt (Iu (E1 sig 32))) (A6h (Ci key)) (Bt (vfK key sig ps)) (Z2 _) (B9v (Ul key)) (Z2 _) W;simp only[Pn.seg]at h;exact h
    exact H7 (g:=gVf vs) 80 ρ [dDec,dN,dB aA,dNew true hn,
     C9i vp vs 32 33 2 29 (fun μ=>[.slice (some ⟨(μ 1).b,0,none⟩) 32 64,.slice (some ⟨(μ 0).b,0,none⟩) 32 32]) (fun μ W=>Bk W (μ 32).b 29 [.slice (some ⟨(μ 1).b,0,none⟩) 32 64,.slice (some ⟨(μ 0).b,0,none⟩) 32 32]∧Bk W (μ 1).b 46 (c8 (E1 sig 0)++c8 (E1 sig 32))∧Bk W (μ 0).b 35 (c8 key)∧True) hv h1 (by omega) (by omega) (fun _=>rfl) (fun _ _ h=>h.1) (fun _ _ _ h=>h),
     E0a (E1 sig 0::key::ps) 33 (fun μ W=>Bk W (μ 1).b 46 (c8 (E1 sig 0)++c8 (E1 sig 32))∧Bk W (μ 0).b 35 (c8 key)∧(gVf vs).f.at 33 μ W∧True) (by rw[List.flatten_cons,List.length_append,List.flatten_cons,List.length_append,hr,hk];omega) (fun μ W hS ⟨h28,h14,h34,_⟩=>Md (ms:=[.slice (some ⟨(μ 1).b,0,none⟩) 32 64,.slice (some ⟨(μ 0).b,0,none⟩) 32 32]) (ls:=[E1 sig 0,key]) hl he hS h34 rfl (A7n (Bk.by (l:=E1 sig 0++E1 sig 32) (by simpa [c8] using h28) 0 32 64 (by simp[hr]) (by decide) (by decide) (by simp[hr])) (h14.byAll hk (by decide)))),
     dH (Pb (Iu (E1 sig 32)) (Tq _)) (Z2 _),dP (E6l (Ci key) (Ul key)) (B9v (Ul key)),dH (Pb (vfK key sig ps) (Fe _)) (Z2 _),dP aD (B3e _ _ _),dH (Uq (A9w (Bt (Iu (E1 sig 32))) (A6h (Ci key)) (Bt (vfK key sig ps))) (B3e _ _ _)) (U7 _),
     dEq (vfH key sig ps) (E1 sig 0) (B6a key sig ps) hr rfl] F9 Tryz.func164 (by kernel_rfl)
end
theorem B5c (w:World):Calls Tryz.prog 83 #[.slice none 0 0] w fun e w'=>e=.returned (.slice none 0 0)∧w=w':=by
 have aA:∀(w:World) (a:Option Addr) (n c n' c':Nat),(binOp .eql 29 (.slice a n c) (.slice none n' c')).run Tryz.prog w=.ok (.bool a.isNone) w:=fun w a n c n' c'=>Lib.run_eql_slice_nil w _ _ a n c n' c' Tryz.underlying29;go_enter Tryz.func83,Tryz.ntmps83;go_wp2;go_ret;exact ⟨rfl,rfl⟩
theorem A0o (v:Value) (l:List UInt8) (w:World) (hv:By w 0 w.heap.size v l) (hne:0<l.length) (hn:l.length≤1099511627776) :
 Calls Tryz.prog 83 #[v] w fun e w'=>∃u,e=.returned u∧I5 w' w.heap.size u l∧Below w.heap.size w w':=by
 obtain⟨g,o,c,rfl,h1,h2,_,_,_⟩:=hv.row hne;have aA:=Lib.hid (hv.alloc (Nat.le_refl _) (.cells #[] 5));clear hv;have aD:∀(w:World) (a:Option Addr) (n c n' c':Nat),(binOp .eql 29 (.slice a n c) (.slice none n' c')).run Tryz.prog w=.ok (.bool a.isNone) w:=fun w a n c n' c'=>Lib.run_eql_slice_nil w _ _ a n c n' c' Tryz.underlying29;have ho:Hid (I5 (w.alloc (.cells #[] 5)) w.heap.size (.slice (some ⟨w.heap.size,0,none⟩) 0 0) []):=Lib.hid (World.ownsRow_made w #[] 0 (Nat.le_refl _) (Nat.zero_le _) (by simp));go_enter Tryz.func83,Tryz.ntmps83;go_wp2_with (at_builtin;refine Ud _ w.heap.size _ [] rfl _ _ rfl rfl ho.out _ rfl l 0 _ aA.out (by simp;omega) (by simp) ?_;intro A2 c2 w2 aE aF aB aC aG aH);go_ret;exact ⟨_,rfl,by simpa using aB,((Below.refl _ _).alloc (Nat.le_refl _) _).trans aC⟩
theorem C4q (v:UInt64) (m:Nat) (hm:m<8):(J3 v).take m++[(v >>> UInt64.ofNat (56-8*m)).toUInt8]=(J3 v).take (m+1):=by
 match m,hm with
 | 0,_=>rfl
 | 1,_=>rfl
 | 2,_=>rfl
 | 3,_=>rfl
 | 4,_=>rfl
 | 5,_=>rfl
 | 6,_=>rfl
 | 7,_=>
  show [(v >>> 56).toUInt8,(v >>> 48).toUInt8,(v >>> 40).toUInt8,(v >>> 32).toUInt8,(v >>> 24).toUInt8,(v >>> 16).toUInt8,(v >>> 8).toUInt8]++[(v >>> UInt64.ofNat 0).toUInt8]=J3 v;have:v >>> UInt64.ofNat 0=v:=by
   apply UInt64.toNat_inj.1;rw[UInt64.toNat_shiftRight];simp
  rw[this];rfl
@[simp] theorem Ic (v : UInt64) : (J3 v).length = 8 := rfl
def D5p (w:World) (bv:Value) (l:List UInt8):Prop:=(bv=.slice none 0 0∧l=[])∨(By w 0 w.heap.size bv l∧0<l.length∧l.length≤1099511627776)
theorem B1e (bv:Value) (l:List UInt8) (w:World) (h:D5p w bv l):Calls Tryz.prog 83 #[bv] w fun e w'=>∃u,e=.returned u∧I5 w' w.heap.size u l∧Below w.heap.size w w':=by
 rcases h with ⟨rfl,rfl⟩ | ⟨h1,h2,h3⟩
 ·refine (B5c w).mono ?_;rintro e w' ⟨rfl,rfl⟩;exact ⟨_,rfl,I5.nil _ _,Below.refl _ _⟩
 ·exact A0o bv l w h1 h2 h3
theorem Nq (bv:Value) (l:List UInt8) (v:UInt64) (w:World) (h:D5p w bv l) (hl:l.length≤1099511627776) :
 Calls Tryz.prog 45 #[bv,.int .u64 (C8 v)] w fun e w'=>∃u,e=.returned u∧I5 w' w.heap.size u (l++J3 v)∧Below w.heap.size w w':=by
 have H:=Lib.hid h;clear h;go_enter Tryz.func45,Tryz.ntmps45;go_wp2_with fail;refine (B1e bv l w H.out).mono ?_;rintro e w1 ⟨u,rfl,O1,b1⟩;have aC:I5 w1 w.heap.size u (l++(J3 v).take 0):=by simpa using O1
 have O1:=Lib.hid aC;clear aC;go_wp2_with fail;go_loopw [5,6] (fun s x wr=>∃m:Nat,m≤8∧x=.int .i64 (56-8*(m:Int))∧I5 wr w.heap.size s (l++(J3 v).take m)∧Below w.heap.size w wr) (fun _ x _=>(intOf x+8).toNat)
 case atStart=>exact ⟨0,by omega,rfl,O1.out,b1⟩
 case round=>
  clear O1 b1;obtain⟨m,hm,rfl,O,B⟩:=hrel;by_cases hlt:m<8
  ·obtain⟨s,hs⟩:∃s,s=56-8*m:=⟨_,rfl⟩;have es:56-8*(m:Int)=(s:Int):=by omega
   have aD:s<64:=by omega
   have hd:decide (0≤(s:Int))=true:=decide_eq_true (by omega);rw[es];have HS:Hid ((J3 v).take m++[(v >>> UInt64.ofNat s).toUInt8]=(J3 v).take (m+1)):=Lib.hid (by rw[hs];exact C4q v m hlt);have ES:=Lib.hid es;have aB:(l++(J3 v).take m).length≤2199023255552:=by simp;omega
   clear hs es;obtain⟨L,hL⟩:∃L,L=l++(J3 v).take m:=⟨_,rfl⟩;have HL:Hid (L++[(v >>> UInt64.ofNat s).toUInt8]=l++(J3 v).take (m+1)):=Lib.hid (by rw[hL,List.append_assoc,HS.out]);rw[←hL]at O aB;clear hL HS;have O':=Lib.hid O;clear O;go_wp2_with (at_builtin;refine Hd _ w.heap.size _ L rfl _ _ rfl rfl O'.out _ _ rfl rfl (by omega) B.size ?_;intro A2 c2 w7 aG aH aE aF;generalize (L++[(v >>> UInt64.ofNat s).toUInt8]).length=L7 at *);go_roundw;case rel=>exact ⟨m+1,by omega,by rw[←ES.out];all_goals (simp<;>omega),by rw[←HL.out];exact aE,B.trans aF⟩
   case measure=>have:=ES.out;simp[intOf]<;>omega
  ·obtain rfl:m=8:=by omega
   have aA:(J3 v).take 8=J3 v:=rfl;rw[aA]at O;have O':=Lib.hid O;clear O aA;go_wp2_with fail;go_ret;exact ⟨_,rfl,O'.out,B⟩
theorem I5.up {w:World} {base:Nat} {v:Value} {l:List UInt8} (h:I5 w base v l):By w 0 w.heap.size v l:=By.less h.by_ (Nat.zero_le _)
def C6h (l x:List UInt8):List UInt8:=l++J3 (UInt64.ofNat x.length)++x
theorem B1t (l x:List UInt8):(C6h l x).length=l.length+8+x.length:=by simp[C6h];omega
theorem B6b (bv xv:Value) (l x:List UInt8) (w:World) (h:D5p w bv l) (hx:By w 0 w.heap.size xv x) (hl:l.length≤1099511627) (hxl:x.length≤1099511627776) :
 Calls Tryz.prog 46 #[bv,xv] w fun e w'=>∃u,e=.returned u∧I5 w' w.heap.size u (C6h l x)∧Below w.heap.size w w':=by
 obtain⟨A,c,rfl,h2,h3,_⟩:=hx.open_;have hw:IntKind.u64.wrap (x.length:Int)=C8 (UInt64.ofNat x.length):=by
  rw[Eb];unfold C8;simp
 have H:=Lib.hid h;have HX:=Lib.hid hx;have HE:Hid (C6h l x=(l++J3 (UInt64.ofNat x.length))++x):=Lib.hid rfl;obtain⟨n,hn⟩:∃n,n=x.length:=⟨_,rfl⟩;rw[←hn]at hw HE h2 hxl HX ⊢;have HN:=Lib.hid hn;clear h hx hn;go_enter Tryz.func46,Tryz.ntmps46;go_wp2_with fail;refine (Nq bv l (UInt64.ofNat n) w H.out (by omega)).mono ?_;rintro e w1 ⟨u,rfl,O1,b1⟩;have aC:=Lib.hid O1;have aD:=Lib.hid (By.up HX.out b1);have aA:(l++J3 (UInt64.ofNat n)).length≤1099511628000:=by simp;omega
 obtain⟨L,hL⟩:∃L,L=l++J3 (UInt64.ofNat n):=⟨_,rfl⟩;rw[←hL]at HE aA;have O2:Hid (I5 w1 w.heap.size u L):=Lib.hid (by rw[hL];exact O1);clear O1 aC hL hw;go_wp2_with (at_builtin;refine Ud _ w.heap.size _ L rfl _ _ rfl rfl O2.out _ rfl x 0 _ aD.out (by rw[←HN.out];omega) b1.size ?_;intro A2 c2 w2 aF aG aB aE aH aI);go_ret;rw[List.length_append]at aB;exact ⟨_,rfl,by rw[HE.out];exact aB,b1.trans aE⟩
theorem A5t (v:Value) (ls:List (List UInt8)) (w:World) (hp:J9 w w.heap.size v ls) (hsz:ls.flatten.length≤17592186044416) :
 Calls Tryz.prog 88 #[v] w fun e w'=>∃u,e=.returned u∧I5 w' w.heap.size u ls.flatten∧Below w.heap.size w w':=by
 have H:=Lib.hid hp;clear hp;go_enter Tryz.func88,Tryz.ntmps88;go_wp2_with fail;refine (Sb v ls w H.out hsz).mono ?_;rintro e w1 ⟨u,rfl,O1,b1⟩;have O:=Lib.hid O1;clear O1;go_wp2_with fail;go_ret;exact ⟨_,rfl,O.out,b1⟩
def Ej:List UInt8:=[119,105,116,97,110]
def Ie (tag:UInt8) (body:List UInt8):List UInt8:=C6h (Ej++[tag]) body
theorem A7c (tag:UInt8) (body:List UInt8):(Ie tag body).length=14+body.length:=by unfold Ie;rw[B1t];simp[Ej]
theorem A6j:(Ej.map v8).toArray=#[.int .u8 119,.int .u8 105,.int .u8 116,.int .u8 97,.int .u8 110]:=by kernel_rfl
theorem B3q (tag:UInt8) (xv:Value) (x:List UInt8) (w:World) (hx:By w 0 w.heap.size xv x) (hxl:x.length≤1099511627776) :
 Calls Tryz.prog 87 #[.int .u8 (n8 tag),xv] w fun e w'=>∃u,e=.returned u∧I5 w' w.heap.size u (Ie tag x)∧Below w.heap.size w w':=by
 obtain⟨C,hC⟩:∃C:Array Value,C=#[.int .u8 119,.int .u8 105,.int .u8 116,.int .u8 97,.int .u8 110]:=⟨_,rfl⟩;have aG:C.toList=Ej.map v8:=by rw[hC,←A6j]
 have aA:=Go.Lib.run_convert_bytes_const (P:=Tryz.prog) w 29 5 C 5 5 Tryz.underlying29 Tryz.underlying5;have aO:(convert 29 29 (.slice (some ⟨w.heap.size,0,none⟩) 5 5)).run Tryz.prog (w.alloc (.cells #[.int .u8 119,.int .u8 105,.int .u8 116,.int .u8 97,.int .u8 110] 5))=.ok (.slice (some ⟨w.heap.size,0,none⟩) 5 5) (w.alloc (.cells #[.int .u8 119,.int .u8 105,.int .u8 116,.int .u8 97,.int .u8 110] 5 (5,6))):=by rw[hC]at aA;exact aA
 have aH:Below w.heap.size w ((w.alloc (.cells #[.int .u8 119,.int .u8 105,.int .u8 116,.int .u8 97,.int .u8 110] 5 (5,6))).alloc (.cells #[.int .u8 (n8 tag)] 5)):=((Below.refl _ _).alloc (Nat.le_refl _) _).alloc (by simp) _;have aB:∀j u,(Ej.map v8)[j]?=some u→((w.alloc (.cells #[.int .u8 119,.int .u8 105,.int .u8 116,.int .u8 97,.int .u8 110] 5 (5,6))).alloc (.cells #[.int .u8 (n8 tag)] 5)).cell? ⟨w.heap.size,j,none⟩=some u:=fun j u hj=>by
  refine Go.Lib.cell?_alloc_marked _ ?_;rw[cell_of_row _ w.heap.size j #[.int .u8 119,.int .u8 105,.int .u8 116,.int .u8 97,.int .u8 110] 5 (5,6) (heap_alloc_new w _),←hC,←Array.getElem?_toList,aG];exact hj
 have aC:∀j u,([v8 tag]:List Value)[j]?=some u→((w.alloc (.cells #[.int .u8 119,.int .u8 105,.int .u8 116,.int .u8 97,.int .u8 110] 5 (5,6))).alloc (.cells #[.int .u8 (n8 tag)] 5)).cell? ⟨w.heap.size+1,j,none⟩=some u:=fun j u hj=>by
  have h1:=cell_of_row _ (w.alloc (.cells #[.int .u8 119,.int .u8 105,.int .u8 116,.int .u8 97,.int .u8 110] 5 (5,6))).heap.size j #[.int .u8 (n8 tag)] 5 (0,0) (heap_alloc_new (w.alloc (.cells #[.int .u8 119,.int .u8 105,.int .u8 116,.int .u8 97,.int .u8 110] 5 (5,6))) (.cells #[.int .u8 (n8 tag)] 5));have e:(w.alloc (.cells #[.int .u8 119,.int .u8 105,.int .u8 116,.int .u8 97,.int .u8 110] 5 (5,6))).heap.size=w.heap.size+1:=by simp
  rw[e]at h1;rw[h1];simpa [v8] using hj
 obtain⟨i0,aI,aJ,aK,aL⟩:=info_parts A5k;have K1:Hid (some (⟨w.heap.size,0,none⟩:Addr)=none→(5:Nat)=0∧(5:Nat)=0):=Lib.hid (fun h=>by cases h);have K2:Hid ((Ej.map v8).length=5*1):=Lib.hid (by decide);have K3:Hid (∀b:Addr,some (⟨w.heap.size,0,none⟩:Addr)=some b→∀j u,(Ej.map v8)[j]?=some u→((w.alloc (.cells #[.int .u8 119,.int .u8 105,.int .u8 116,.int .u8 97,.int .u8 110] 5 (5,6))).alloc (.cells #[.int .u8 (n8 tag)] 5)).cell? (b.add j)=some u):=Lib.hid (fun b hb j u hj=>by injection hb with hb;subst hb;rw[Q3,Nat.zero_add];exact aB j u hj);have K5:Hid (∀j u,([v8 tag]:List Value)[j]?=some u→((w.alloc (.cells #[.int .u8 119,.int .u8 105,.int .u8 116,.int .u8 97,.int .u8 110] 5 (5,6))).alloc (.cells #[.int .u8 (n8 tag)] 5)).cell? ((⟨w.heap.size+1,0,none⟩:Addr).add j)=some u):=Lib.hid (fun j u hj=>by rw[Q3,Nat.zero_add];exact aC j u hj);have K6:Hid (∀u∈([v8 tag]:List Value),u.oneCell'=true):=Lib.hid (by intro u hu;simp at hu;subst hu;rfl);have HX:=Lib.hid hx;have HI:=Lib.hid aI;have aP:=Lib.hid aJ;have aQ:=Lib.hid aK;have aR:=Lib.hid aL;have HB:=Lib.hid aH;clear hx aI aJ aK aL aB aC hC aG aA aH;go_enter Tryz.func87,Tryz.ntmps87
 go_wp2_with (at_builtin;refine wpList_append_grows _ rfl _ _ 29 rfl 5 i0 _ 1 1 Tryz.underlying29 HI.out aP.out aQ.out aR.out rfl (by decide) (some ⟨w.heap.size,0,none⟩) 5 5 (Ej.map v8) rfl K1.out K2.out K3.out ⟨w.heap.size+1,0,none⟩ 1 1 [v8 tag] rfl rfl K5.out K6.out (by decide) (by decide) (by decide) ?_;intro v' w2 aD aM);have aF:I5 w2 w.heap.size v' (Ej++[tag]):=by
  refine I5.less ?_ HB.out.size;exact aD
 have aE:Below w.heap.size w w2:=HB.out.trans ((Below.refl _ _).grown aM HB.out.size (fun k hk=>by cases hk));obtain⟨A2,c2,rfl,_,_⟩:=aF.form;have aN:Hid (Ej.length=5):=Lib.hid rfl;have HF:Hid (D5p w2 (.slice A2 (Ej++[tag]).length c2) (Ej++[tag])):=Lib.hid (.inr ⟨aF.up,by simp,by simp[aN.out]⟩);have aS:=Lib.hid (By.up HX.out aE);clear aF aD aM aO;go_wp2_with fail;refine (B6b _ _ (Ej++[tag]) x w2 HF.out aS.out (by simp[aN.out]) hxl).mono ?_;rintro e w3 ⟨u,rfl,O3,b3⟩;have aT:=Lib.hid O3;clear O3;go_wp2_with fail;go_ret;exact ⟨_,rfl,I5.less aT.out aE.size,aE.trans (b3.mono aE.size)⟩
section
theorem By.formE {w:World} {B:Nat} {v:Value} {l:List UInt8} (h:By w 0 B v l):∃A n c,v=.slice A n c:=by
 obtain⟨A,c,rfl,_⟩:=h.open_;exact ⟨_,_,_,rfl⟩
theorem D7w {tag:UInt8} {body:List UInt8} (h:body.length≤1000000):[Ie tag body].flatten.length≤1000000000:=by simp[A7c];omega
noncomputable def Fw (seed:List UInt8) (tag:UInt8) (body:List UInt8):List UInt8:=Pz seed [Ie tag body]
noncomputable def Cz (key:List UInt8) (tag:UInt8) (body sig:List UInt8):Bool:=Cy key sig [Ie tag body]
@[simp, go_sem] theorem Gd (seed : List UInt8) (tag : UInt8) (body : List UInt8) : (Fw seed tag body).length = 64 := A7v _ _
def byF (lo:Nat) (f:Nat→Option (List UInt8)):Fcts:=⟨fun _=>[],fun n l W=>match f n,l with
 | some b,[x]=>By W lo W.heap.size x.v b
 | _,_=>True⟩
def gBy (lo:Nat) (cut:TypeId→Option (List Nat)) (dyn:FuncId→Bool) (f:Nat→Option (List UInt8)):Cfg:=⟨cut,fun g=>if dyn g then some 0 else none,byF lo f⟩
def C5g {Φ:Fcts} {w:World} {f:FuncId} (args:(Nat→Nm)→Array Value) (n:Nat) (l:List UInt8) (pre:(Nat→Nm)→World→Prop) (h:∀μ W,Below w.heap.size w W→pre μ W→Calls Tryz.prog f (args μ) W fun e W'=>∃u,e=.returned u∧By W' W.heap.size W'.heap.size u l∧Below W.heap.size W W')
 (hf:∀μ x W,By W w.heap.size W.heap.size x.v l→Φ.at n (Xm μ n x) W):DC Tryz.prog Φ (fun W=>Below w.heap.size w W):=
 ⟨.call f args (fun μ=>(μ n).v) (some n) pre,fun μ W hS hp=>(h μ W hS hp).mono fun e W' ⟨u,e1,e2,e3⟩=>by
  obtain⟨A,n,c,rfl⟩:=(By.less e2 (Nat.zero_le _)).formE;exact ⟨⟨0,_,rfl⟩,by rw[e1];simp[Xm],e3,fun W'' hz he _=>hf μ _ W'' ((Sl.later e2 hz he).less hS.size)⟩,[Wo jnk rfl]⟩
theorem I5.ret {f:FuncId} {args:Array Value} {w:World} {l:List UInt8} (h:Calls Tryz.prog f args w fun e w'=>∃u,e=.returned u∧I5 w' w.heap.size u l∧Below w.heap.size w w'):Calls Tryz.prog f args w fun e w'=>∃u,e=.returned u∧By w' w.heap.size w'.heap.size u l∧Below w.heap.size w w':=h.mono fun e w' ⟨u,h1,h2,h3⟩=>⟨u,h1,h2.by_,h3⟩
set_option maxRecDepth 100000
theorem By.one' {w:World} {B:Nat} {v:Value} {l:List UInt8} (h:By w 0 B v l):v.oneCell'=true:=by obtain⟨A,n,c,rfl⟩:=h.formE;rfl
theorem B2i (seed:List UInt8) (tag:UInt8) (bv:Value) (body:List UInt8) (hs:seed.length=32) (w:World) (hb:By w 0 w.heap.size bv body) (hbl:body.length≤1000000):Calls Tryz.prog 38 #[A8 seed,.int .u8 (n8 tag),bv] w fun e w'=>e=.returned (A8 (Fw seed tag body))∧Below w.heap.size w w':=
 let g:=gBy w.heap.size Fy.cut (fun f=>f==87) fun n=>if n=5 then some (Ie tag body) else none
 H7 (g:=g) 60 [Je seed 32 hs,Wo (.int .u8 (n8 tag)) rfl,Wo bv hb.one'] [
  C5g (fun _=>#[.int .u8 (n8 tag),bv]) 5 (Ie tag body) (fun _ _=>True) (fun _ W hS _=>I5.ret (B3q tag bv body W (hb.up hS) (by omega))) (fun _ _ _ h=>h),
  ⟨.call 86 (fun μ=>#[A8 seed,.slice (some ⟨(μ 6).b,0,none⟩) 1 1]) (fun _=>A8 (Fw seed tag body)) none (fun μ W=>Bk W (μ 6).b 29 [(μ 5).v]∧g.f.at 5 μ W∧True),fun μ W _ ⟨h6,h5,_⟩=>C7z seed _ [Ie tag body] hs W (h6.parts1 (By.less h5 (Nat.zero_le _))) (Nat.zero_lt_one) (by simp) (D7w hbl),[Je (Fw seed tag body) 64 (Gd _ _ _)]⟩] F9 Tryz.func38 (by kernel_rfl)
theorem A5f (key:List UInt8) (tag:UInt8) (bv:Value) (body:List UInt8) (sig:List UInt8) (hk:key.length=32) (hg:sig.length=64) (w:World) (hb:By w 0 w.heap.size bv body) (hbl:body.length≤1000000):Calls Tryz.prog 106 #[A8 key,.int .u8 (n8 tag),bv,A8 sig] w fun e w'=>e=.returned (.bool (Cz key tag body sig))∧Below w.heap.size w w':=
 let g:=gBy w.heap.size Fy.cut (fun f=>f==87) fun n=>if n=7 then some (Ie tag body) else none
 H7 (g:=g) 60 [Je key 32 hk,Wo (.int .u8 (n8 tag)) rfl,Wo bv hb.one',Je sig 64 hg] [
  C5g (fun _=>#[.int .u8 (n8 tag),bv]) 7 (Ie tag body) (fun _ _=>True) (fun _ W hS _=>I5.ret (B3q tag bv body W (hb.up hS) (by omega))) (fun _ _ _ h=>h),
  ⟨.call 164 (fun μ=>#[A8 key,A8 sig,.slice (some ⟨(μ 8).b,0,none⟩) 1 1]) (fun _=>.bool (Cz key tag body sig)) none (fun μ W=>Bk W (μ 8).b 29 [(μ 7).v]∧g.f.at 7 μ W∧True),fun μ W _ ⟨h6,h5,_⟩=>B6e key sig _ [Ie tag body] hk hg W (h6.parts1 (By.less h5 (Nat.zero_le _))) (Nat.zero_lt_one) (by simp) (D7w hbl),[Wo (.bool (Cz key tag body sig)) rfl]⟩] F9 Tryz.func106 (by kernel_rfl)
def U8 (v:Int):UInt64:=UInt64.ofNat (v % 18446744073709551616).toNat
theorem Pk (v:Int):IntKind.u64.wrap v=C8 (U8 v):=by
 unfold C8 U8;rw[UInt64.toNat_ofNat'];simp only[IntKind.wrap,IntKind.bits,IntKind.signed,Bool.false_and,Bool.false_eq_true,if_false];omega
def Fl (ver:Int) (key:List UInt8):List UInt8:=[J3 (U8 ver),key].flatten
theorem Ua (ver:Int) {key:List UInt8} (h:key.length=32):(Fl ver key).length=40:=by simp[Fl,h]
theorem C8g (ver:Int) (key:List UInt8) (hk:key.length=32) (w:World):Calls Tryz.prog 39 #[.int .i64 ver,A8 key] w fun e w'=>∃u,e=.returned u∧By w' w.heap.size w'.heap.size u (Fl ver key)∧Below w.heap.size w w':=by
 let g:=gBy w.heap.size Fy.cut (fun f=>f==45||f==88) fun n=>if n=4 then some (J3 (U8 ver)) else if n=7 then some (Fl ver key) else none
 have h:=C8c (w:=w) (g:=g) (v:=fun μ=>(μ 7).v) (q:=fun lo μ W=>g.f.at 7 μ W∧True) (nf:=false) (args:=#[.int .i64 ver,A8 key]) 60 [Wo (.int .i64 ver) rfl,Je key 32 hk] [
  C6d (s:=convert 3 104 (.int .i64 ver)) (v:=.int .u64 (C8 (U8 ver))) (fun W=>by rw[←Pk];rfl) [Wo (.int .u64 (C8 (U8 ver))) rfl],
  C5g (fun _=>#[.slice none 0 0,.int .u64 (C8 (U8 ver))]) 4 (J3 (U8 ver)) (fun _ _=>True) (fun _ W _ _=>I5.ret (Nq _ [] _ W (.inl ⟨rfl,rfl⟩) (by simp))) (fun _ _ _ h=>h),
  C5g (fun μ=>#[.slice (some ⟨(μ 6).b,0,none⟩) 2 2]) 7 (Fl ver key) (fun μ W=>Bk W (μ 6).b 29 [(μ 4).v,.slice (some ⟨(μ 0).b,0,none⟩) 32 32]∧Bk W (μ 0).b 35 (c8 key)∧g.f.at 4 μ W∧True) (fun μ W _ ⟨h6,h0,h4,_⟩=>I5.ret (A5t _ _ W (h6.parts rfl (by simp[maxLen]) (A7n (By.less h4 (Nat.zero_le _)) (h0.byAll hk (by decide)))) (by simp[hk]))) (fun _ _ _ h=>h)] F9 Tryz.func39 (by kernel_rfl)
 exact h.mono fun e w' ⟨μ,h1,h2,h3⟩=>⟨_,h1,(h3 w' ⟨Nat.le_refl _,fun _ _ _=>rfl⟩ (.inr h2)).1,h2⟩
end
section
structure UV where
 id:List UInt8
 ver:Int
 key:List UInt8
 sig:List UInt8
structure UV.Ok (u : UV) : Prop where
 id:u.id.length=32
 key:u.key.length=32
 sig:u.sig.length=64
def Cj (u:UV):List Value:=c8 u.id++(.int .i64 u.ver::(c8 u.key++c8 u.sig))
def UV.length (u:UV):Nat:=(Cj u).length
def uvV (u:UV):Value:=.agg (Cj u).toArray
def uvz (_:Nat):UV:=⟨z8 32,0,z8 32,z8 64⟩
theorem UV.Ok.len {u:UV} (h:u.Ok):u.length=129:=by unfold UV.length Cj;simp[h.id,h.key,h.sig]
theorem Vq (n:Nat):(uvz n).Ok:=⟨by simp[uvz],by simp[uvz],by simp[uvz]⟩
theorem De (u:UV):(Cj u).length=u.length:=rfl
theorem D3g (u:UV):∀x∈Cj u,x.oneCell'=true:=by
 intro x hx;simp only[Cj,List.mem_append,List.mem_cons]at hx;rcases hx with hx | rfl | hx | hx
 ·obtain⟨y,_,rfl⟩:=List.mem_map.1 hx;rfl
 ·rfl
 ·obtain⟨y,_,rfl⟩:=List.mem_map.1 hx;rfl
 ·obtain⟨y,_,rfl⟩:=List.mem_map.1 hx;rfl
theorem C0w:(Tryz.prog.info? 48).map (·.size)=some 129:=by kernel_rfl
theorem A6s:((Tryz.prog.info? 48).bind (·.zero))=some (uvV (uvz 129)):=by kernel_rfl
theorem Vx:Tryz.prog.underlying 48=some (.struct (I2 Tryz.prog 48)):=by kernel_rfl
@[go_sem] theorem F5v (u : UV) : Value.agg (Cj u).toArray = uvV u := rfl
@[go_sem] theorem E6f (t : TypeId) (w : World) (raw : Result Next) (u : UV) : Jx t w raw (uvV u) = .ok (.value (.pointer (some ⟨w.heap.size, 0, none⟩))) (w.alloc (.cells (Cj u).toArray t)) := rfl
@[go_sem] theorem E2c (n : Nat) (w : World) (raw : Result Next) (a : Addr) (u : UV) : Y6 n w raw (.pointer (some a)) (uvV u) =
 if u.length=n∧E7 w a n=true then .ok .skip (C4 w a (Cj u)) else raw:=by
 have h1:((Cj u).toArray.all (·.oneCell'))=true:=by rw[Array.all_eq_true'];intro x hx;exact D3g u x (by simpa using hx)
 unfold uvV;rw[A1i,h1];simp only[List.size_toArray,true_and,De]
section
variable (w : World) (ρ : Operand → Value) (dst : Option Tmp) (ty : TypeId) (pos : String) (after : Array Edge) (guard : Option (Nat × Bool))
@[go_sem ↓ high] theorem F5g:RL' 48 129:=LL' Vx C0w
@[go_sem ↓ high] theorem E6x:RS' 48 129:=SS' C0w
@[go_sem ↓ high] theorem E5o:RA' 48 (Cj (uvz 129)).toArray:=fun w ρ dst ty pos after guard=>I7 w ρ dst ty pos after guard 48 (uvV (uvz 129)) A6s
@[go_sem ↓ high] theorem F8f:RB' 48:=BX' _
end
theorem A4b (w:World):(Z3 (I2 Tryz.prog 48)).run Tryz.prog w=.ok #[(0,32),(32,1),(33,32),(65,64)] w:=by kernel_rfl
noncomputable def E7a (w:World) (raw:Result Next) (a b c d:Value):Result Next:=match T5 a,b,T5 c,T5 d with
 | some i,.int .i64 v,some k,some s=>if i.length=32∧k.length=32∧s.length=64 then .ok (.value (uvV ⟨i,v,k,s⟩)) w else raw
 | _,_,_,_=>raw
theorem E0j (i k s:List UInt8) (v:Int) (hi:i.length=32) (hk:k.length=32) (hs:s.length=64) (w:World):(Instr.build 48 #[(0,A8 i),(1,.int .i64 v),(2,A8 k),(3,A8 s)]).run Tryz.prog w=.ok (uvV ⟨i,v,k,s⟩) w:=by
 have aA:(uvV (uvz 129)).cells.toList=c8 (z8 32)++(.int .i64 0::(c8 (z8 32)++c8 (z8 64))):=rfl;have h1:=I3 Vx A6s w (A4b w) #[(0,A8 i),(1,.int .i64 v),(2,A8 k),(3,A8 s)] [(0,c8 i),(32,[.int .i64 v]),(33,c8 k),(65,c8 s)] (by
  rw[aA];exact ⟨by simp[hi],rfl,by simp[hi],by simp,rfl,by simp,by simp[hk],rfl,by simp[hk],by simp[hs],rfl,by simp[hs],trivial⟩)
 refine h1.trans (congrArg (fun (cs:List Value)=>Result.ok (Value.agg cs.toArray) w) ?_);rw[aA];simp[Bg,N9,hi,hk,hs,List.take_append,List.drop_append,List.drop_eq_nil_of_le,List.take_of_length_le,Cj,c8]
@[go_sem ↓ high] theorem E6i (w : World) (ρ : Operand → Value) (dst : Option Tmp) (ty : TypeId) (pos : String) (after : Array Edge) (guard : Option (Nat × Bool)) (x y z t : Operand) :
 (execOp ρ { dst,op:=.build 48 #[(0,x),(1,y),(2,z),(3,t)],type:=ty,pos,after,guard }).run Tryz.prog w=E7a w (F2 Tryz.prog ρ { dst,op:=.build 48 #[(0,x),(1,y),(2,z),(3,t)],type:=ty,pos,after,guard } w) (ρ x) (ρ y) (ρ z) (ρ t):=by
 generalize h0:ρ x=a;generalize h1:ρ y=b;generalize h2:ρ z=c;generalize h3:ρ t=d;unfold E7a;split
 ·rename_i i v k s g0 g1 g2
  replace g0:=J4 g0;replace g1:=J4 g1;replace g2:=J4 g2;split
  ·rename_i h
   refine E9 w ρ dst ty pos after guard _ _ _ ?_;simp only[List.map_toArray,List.map_cons,List.map_nil,h0,h1,h2,h3,g0,g1,g2];exact E0j i k s v h.1 h.2.1 h.2.2 w
  ·rfl
 ·rfl
section
variable {w : World} {g : Nat} {t : TypeId} {u m : UV} {n : Nat}
theorem Bk.rowvc (K:Bk w g t (Cj u)) (hu:u.length=n):D9 w ⟨g,0,none⟩ n=some (Cj u):=by have:=K.rows;rwa [De,hu]at this
theorem Bk.canvc (K:Bk w g t (Cj u)) (hu:u.length=n):E7 w ⟨g,0,none⟩ n=true:=K.can (by rw[De,hu];omega)
theorem Bk.putvc (K:Bk w g t (Cj u)) (hu:u.length=n) (hm:m.length=n):Bk (C4 w ⟨g,0,none⟩ (Cj m)) g t (Cj m):=K.puts (by rw[De,De,hu,hm])
theorem UV.loadid (K:Bk w g t (Cj u)) (h:u.Ok):D9 w ⟨g,0,none⟩ 32=some (c8 u.id):=by
 rw[K.rowMid 0 32 (by rw[De,h.len];decide)];simp[Cj,h.id]
theorem UV.loadver (K:Bk w g t (Cj u)) (h:u.Ok):w.cell? ⟨g,32,none⟩=some (.int .i64 u.ver):=by
 refine K.at_ ?_;simp[Cj,h.id]
theorem UV.loadkey (K:Bk w g t (Cj u)) (h:u.Ok):D9 w ⟨g,33,none⟩ 32=some (c8 u.key):=by
 rw[K.rowMid 33 32 (by rw[De,h.len];decide)];simp[Cj,h.id,h.key,List.drop_append,List.drop_eq_nil_of_le]
end
end
section
theorem C2p (seed:List UInt8) (bv:Value) (body:List UInt8) (hs:seed.length=32) (w:World) (hb:By w 0 w.heap.size bv body) (hbl:body.length≤1000000):Calls Tryz.prog 38 #[A8 seed,.int .u8 1,bv] w fun e w'=>e=.returned (A8 (Fw seed 1 body))∧Below w.heap.size w w':=B2i seed 1 bv body hs w hb hbl
theorem B5a (key:List UInt8) (bv:Value) (body sig:List UInt8) (hk:key.length=32) (hg:sig.length=64) (w:World) (hb:By w 0 w.heap.size bv body) (hbl:body.length≤1000000):Calls Tryz.prog 106 #[A8 key,.int .u8 1,bv,A8 sig] w fun e w'=>e=.returned (.bool (Cz key 1 body sig))∧Below w.heap.size w w':=A5f key 1 bv body sig hk hg w hb hbl
def D8n {Φ:Fcts} {w:World} (ver:Int) (key:List UInt8) (hk:key.length=32) (n:Nat) (hf:∀μ x W,By W w.heap.size W.heap.size x.v (Fl ver key)→Φ.at n (Xm μ n x) W):DC Tryz.prog Φ (fun W=>Below w.heap.size w W):=
 C5g (fun _=>#[.int .i64 ver,A8 key]) n (Fl ver key) (fun _ _=>True) (fun _ W _ _=>C8g ver key hk W) hf
def gBd (lo n:Nat) (ver:Int) (key:List UInt8):Cfg:=gBy lo (fun t=>if t=48 then some [32,1,32,64] else Fy.cut t) (fun f=>f==39) fun m=>if m=n then some (Fl ver key) else none
noncomputable def mkU (seed:List UInt8) (ver:Int) (key:List UInt8):UV:=⟨X0 seed,ver,key,Fw seed 1 (Fl ver key)⟩
theorem E2g (seed:List UInt8) (ver:Int) {key:List UInt8} (hk:key.length=32):(mkU seed ver key).Ok:=⟨Dv _,hk,Gd _ _ _⟩
set_option maxRecDepth 100000
theorem C8a (seed:List UInt8) (ver:Int) (key:List UInt8) (hs:seed.length=32) (hk:key.length=32) (w:World):Calls Tryz.prog 12 #[A8 seed,.int .i64 ver,A8 key] w fun e w'=>e=.returned (uvV (mkU seed ver key))∧Below w.heap.size w w':=
 H7 (g:=gBd w.heap.size 10 ver key) 60 [Je seed 32 hs,Wo (.int .i64 ver) rfl,Je key 32 hk] [dH (A2r seed hs) (Dv _),D8n ver key hk 10 (fun _ _ _ h=>h),
  ⟨.call 38 (fun μ=>#[A8 seed,.int .u8 1,(μ 10).v]) (fun _=>A8 (Fw seed 1 (Fl ver key))) none (fun μ W=>(gBd w.heap.size 10 ver key).f.at 10 μ W∧True),fun μ W _ ⟨h,_⟩=>C2p seed _ _ hs W (By.less h (Nat.zero_le _)) (by rw[Ua _ hk];decide),[Je (Fw seed 1 (Fl ver key)) 64 (Gd _ _ _)]⟩] F9 Tryz.func12 (by kernel_rfl)
end
section
noncomputable def Z5 (u:UV):Bool:=decide (1≤u.ver)&&(decide (u.ver≤64)&&Cz u.id 1 (Fl u.ver u.key) u.sig)
theorem B4n {u:UV} (h:decide (1≤u.ver)=false):Z5 u=false:=by unfold Z5;rw[h,Bool.false_and]
theorem B5b {u:UV} (h:decide (u.ver≤64)=false):Z5 u=false:=by unfold Z5;rw[h,Bool.false_and,Bool.and_false]
theorem A1x {u:UV} (h:decide (1≤u.ver)=true) (h2:decide (u.ver≤64)=true):Z5 u=Cz u.id 1 (Fl u.ver u.key) u.sig:=by unfold Z5;rw[h,h2,Bool.true_and,Bool.true_and]
set_option maxRecDepth 100000
theorem B6k (u:UV) (hu:u.Ok) (w:World):Calls Tryz.prog 58 #[uvV u] w fun e w'=>e=.returned (.bool (Z5 u))∧Below w.heap.size w w':=by
 obtain⟨hi,hk,hs⟩:=hu;let ρ:List Av:=[Je u.id 32 hi,Wo (.int .i64 u.ver) rfl,Je u.key 32 hk,Je u.sig 64 hs]
 let g:=gBd w.heap.size 17 u.ver u.key
 let dGe (b:Bool) (hb:decide (1≤u.ver)=b):DC Tryz.prog g.f (fun W=>Below w.heap.size w W):=Sj (op:=.geq) (t:=3) (x:=.int .i64 u.ver) (y:=.int .i64 1) (v:=.bool b) (fun X Y W=>by rw[←hb];rfl) rfl
 let dLe (b:Bool) (hb:decide (u.ver≤64)=b):DC Tryz.prog g.f (fun W=>Below w.heap.size w W):=Sj (op:=.leq) (t:=3) (x:=.int .i64 u.ver) (y:=.int .i64 64) (v:=.bool b) (fun X Y W=>by rw[←hb];rfl) rfl
 cases h1:decide (1≤u.ver) with
 | false=>rw[B4n h1];exact H7 (g:=g) 60 ρ [dGe false h1] F9 Tryz.func58 (by kernel_rfl)
 | true=>cases h2:decide (u.ver≤64) with
  | false=>rw[B5b h2];exact H7 (g:=g) 60 ρ [dGe true h1,dLe false h2] F9 Tryz.func58 (by kernel_rfl)
  | true=>
   rw[A1x h1 h2];exact H7 (g:=g) 60 ρ [dGe true h1,dLe true h2,D8n u.ver u.key hk 17 (fun _ _ _ h=>h),
    ⟨.call 106 (fun μ=>#[A8 u.id,.int .u8 1,(μ 17).v,A8 u.sig]) (fun _=>.bool (Cz u.id 1 (Fl u.ver u.key) u.sig)) none (fun μ W=>g.f.at 17 μ W∧True),fun μ W _ ⟨h,_⟩=>B5a u.id _ _ u.sig hi hs W (By.less h (Nat.zero_le _)) (by rw[Ua _ hk];decide),[Wo (.bool (Cz u.id 1 (Fl u.ver u.key) u.sig)) rfl]⟩] F9 Tryz.func58 (by kernel_rfl)
end
end Go.Proofs.YtdfpoofbgjilgaaGreat
