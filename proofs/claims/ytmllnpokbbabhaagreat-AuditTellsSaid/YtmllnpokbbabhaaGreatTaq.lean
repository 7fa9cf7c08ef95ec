/- A part of the proof of AuditTells. -/
import Derived.Test.YtmllnpokbbabhaaGreatTap
set_option linter.unusedVariables false
set_option linter.unusedSimpArgs false
set_option maxRecDepth 100000
set_option maxHeartbeats 40000000
namespace Go.Proofs.YtmllnpokbbabhaaGreat
open Go Go.RowKit Sh
section
def Hc:Cfg:=⟨fun t=>if t=182 then some [5,5,5,5] else none,fun _=>none,noF⟩
def Pn.val (p:Pn):Value:=.agg (E4 p.x++(E4 p.y++(E4 p.z++E4 p.t))).toArray
theorem Pn.seg (p:Pn):H7 p.row=p.val:=by
 unfold H7 Pn.val Pn.row ptl E4;simp
def Pn.av (p:Pn) (h:p.Ok):List Av:=[Ca p.x 5 h.x,Ca p.y 5 h.y,Ca p.z 5 h.z,Ca p.t 5 h.t]
section
variable {f : FuncId} {args : Array Value} {Φ : Fcts} {S : World → Prop}
def dP {p:Pn} (h:∀W,Calls Tryz.prog f args W fun e W'=>e=.returned p.val∧Below W.heap.size W W') (hp:p.Ok):DC Tryz.prog Φ S:=⟨.call f (fun _=>args) (fun _=>p.val) none (fun _ _=>True),fun _ W _ _=>h W,p.av hp⟩
end
def b31 (l:List UInt8) (x:UInt8):Value:=.agg (c8 (l.take 31)++c8 [x]).toArray
theorem Rf {l:List UInt8} (hl:l.length=32):A8 l=b31 l (Sh.g8 l 31):=by
 have h1:l=l.take 31++[Sh.g8 l 31]:=by
  conv=>lhs;rw[←List.take_append_drop 31 l]
  congr 1;rw[List.drop_eq_getElem_cons (by omega),List.drop_eq_nil_of_le (by omega)];simp[Sh.g8,List.getD_eq_getElem?_getD,hl]
 unfold A8 b31;conv=>lhs;rw[h1]
 simp[c8]
theorem D6u {l:List UInt8} (hl:l.length=32) (x:UInt8):A8 (l.set 31 x)=b31 l x:=by
 rw[Rf (by simpa using hl)];unfold b31;rw[List.take_set_of_le (by omega)];simp[Sh.g8,List.getD_eq_getElem?_getD,hl]
def D8m {Φ:Fcts} {S:World→Prop} {f:FuncId} {args:Array Value} {l:List UInt8} (h:∀W,Calls Tryz.prog f args W fun e W'=>e=.returned (A8 l)∧Below W.heap.size W W') (hl:l.length=32):DC Tryz.prog Φ S:=
 ⟨.call f (fun _=>args) (fun _=>b31 l (Sh.g8 l 31)) none (fun _ _=>True),fun _ W _ _=>by rw[←Rf hl];exact h W,[Km (l.take 31) 31 (by simp[hl]),Km [Sh.g8 l 31] 1 rfl]⟩
def D7t {Φ:Fcts} {S:World→Prop} (l m:List UInt8) (hl:l.length=32) (hm:m.length=32) {b:Bool} (hb:(l==m)=b):DC Tryz.prog Φ S:=Vx (op:=.eql) (t:=40) (x:=b31 l (Sh.g8 l 31)) (y:=b31 m (Sh.g8 m 31)) (v:=.bool b) (by rw[←hb,←Rf hl,←Rf hm];exact C1x l m hl hm) rfl
def gB:Cfg:=⟨fun t=>if t=40 then some [31,1] else Hc.cut t,fun _=>none,noF⟩
end
section
set_option maxRecDepth 100000
theorem B4c (a:List UInt64) (ha:a.length=5) (w:World):Calls Tryz.prog 188 #[H7 a] w fun e w'=>e=.returned (.tuple #[H7 (Vp a),H7 (Ju a)])∧Below w.heap.size w w':=by
 let sq:=fun (n:Nat) (hn:n≤1000000) (x:List UInt64) (hx:x.length=5)=>(dE (Pe x hx n hn) (Za hx n):DC1 w)
 let mul:=fun (x y:List UInt64) (hx:x.length=5) (hy:y.length=5)=>(dE (O5 x y hx hy) rfl:DC1 w)
 let u:=J9 (Ef 20 (f20 a)) (f20 a)
 let v:=J9 (Ef 100 (B0a a)) (B0a a)
 exact E8 (g:=Hc) 60 [Ca a 5 ha]
  [dE (A0l a ha) rfl,sq 2 (by decide) (fsq a) rfl,mul (Ef 2 (fsq a)) a rfl ha,mul (A7t a) (fsq a) rfl rfl,dE (A0l (Ju a) rfl) rfl,mul (fsq (Ju a)) (A7t a) rfl rfl,
   sq 5 (by decide) (f5 a) rfl,mul (Ef 5 (f5 a)) (f5 a) rfl rfl,sq 10 (by decide) (f10 a) rfl,mul (Ef 10 (f10 a)) (f10 a) rfl rfl,sq 20 (by decide) (f20 a) rfl,mul (Ef 20 (f20 a)) (f20 a) rfl rfl,
   sq 10 (by decide) u rfl,mul (Ef 10 u) (f10 a) rfl rfl,sq 50 (by decide) (f50 a) rfl,mul (Ef 50 (f50 a)) (f50 a) rfl rfl,sq 100 (by decide) (B0a a) rfl,mul (Ef 100 (B0a a)) (B0a a) rfl rfl,sq 50 (by decide) v rfl,mul (Ef 50 v) (f50 a) rfl rfl]
  E7 Tryz.func188 (by kernel_rfl)
theorem C1f (a:List UInt64) (ha:a.length=5) (w:World):Calls Tryz.prog 152 #[H7 a] w fun e w'=>e=.returned (H7 (Zr a))∧Below w.heap.size w w':=
 E8 (g:=Hc) 60 [Ca a 5 ha] [dEE (B4c a ha) rfl rfl,dE (Pe (Vp a) rfl 5 (by decide)) rfl,dE (O5 (Ef 5 (Vp a)) (Ju a) rfl rfl) rfl] E7 Tryz.func152 (by kernel_rfl)
end
section
theorem A1c (w:World) (g o:Nat) (vs:List Value):w.grownBy (C2 w ⟨g,o,none⟩ vs) (some g):=
 by
 have h:=C0 (B:=g) (a:=⟨g,o,none⟩) (Below.refl g w) (Nat.le_refl g) vs;exact ⟨h.os,h.tape,h.output,h.size,fun k hk hne=>X2 _ _ _ _ _ (fun e=>hne (by rw[e]))⟩
def B1m (u v:List UInt64):List UInt64:=J9 u (Zr v)
def A8z (u v:List UInt64):List UInt64:=J9 (Ef 2 (Vp (B1m u v))) (fsq (B1m u v))
def B9k (x w:List UInt64):Bool:=Q0 (J9 x x)==Q0 w
def Lx (u v:List UInt64):List UInt64:=if B9k (A8z u v) (B1m u v) then A8z u v else J9 (A8z u v) Vy
def C6x (x:List UInt64):List UInt64:=if A4s x then Gh (T9 5) x else x
def Ev (u v:List UInt64):Bool:=!(Q0 v==z8 32)&&B9k (Lx u v) (B1m u v)
def Ze (u v:List UInt64):List UInt64:=if Ev u v then C6x (Lx u v) else T9 5
theorem A4k (u v:List UInt64):(Lx u v).length=5:=by unfold Lx;split<;>rfl
theorem Va (u v:List UInt64):(Ze u v).length=5:=by
 unfold Ze C6x;split
 ·split
  ·rfl
  ·exact A4k u v
 ·rfl
theorem C0w {u v:List UInt64} (h:Ev u v=false):Ze u v=T9 5:=by unfold Ze;rw[if_neg (by rw[h];decide)]
theorem B1q {u v:List UInt64} (h:Ev u v=true):Ze u v=C6x (Lx u v):=by unfold Ze;rw[if_pos h]
set_option maxRecDepth 100000
theorem C2w (u v:List UInt64) (hu:u.length=5) (hv:v.length=5) (w:World):Calls Tryz.prog 199 #[H7 u,H7 v] w fun e w'=>e=.returned (.tuple #[H7 (Ze u v),.bool (Ev u v)])∧Below w.heap.size w w':=by
 have hh:∀x,(Q0 x).length=32:=Af;let hash:=fun (x:List UInt64) (hx:x.length=5)=>(dH (Hg x hx) (hh x):DC1 w)
 let mul:=fun (x y:List UInt64) (hx:x.length=5) (hy:y.length=5)=>(dE (O5 x y hx hy) rfl:DC1 w)
 let W:=B1m u v
 let X:=A8z u v
 cases h1:Q0 v==z8 32
 ·let pre:DL w:=[hash v hv,dEq (Q0 v) (z8 32) (hh v) rfl h1,dE (C1f v hv) rfl,mul u (Zr v) hu rfl,dEE (B4c W rfl) rfl rfl,dE (Pe (Vp W) rfl 2 (by decide)) rfl,dE (A0l W rfl) rfl,mul (Ef 2 (Vp W)) (fsq W) rfl rfl,mul X X rfl rfl,hash (J9 X X) rfl,hash W rfl]
  cases h2:Q0 (J9 X X)==Q0 W
  ·let Y:=J9 X Vy
   have e2:Lx u v=Y:=by unfold Lx B9k;rw[h2];rfl
   let mid:DL w:=[dNe (Q0 (J9 X X)) (Q0 W) (hh _) (hh _) h2,dE B0s rfl,mul X Vy rfl rfl,mul Y Y rfl rfl,hash (J9 Y Y) rfl,hash W rfl]
   cases h3:Q0 (J9 Y Y)==Q0 W
   ·have hB:Ev u v=false:=by unfold Ev B9k;rw[e2,h1,h3];rfl
    rw[C0w hB,hB];exact E8 (g:=Hc) 60 [Ca u 5 hu,Ca v 5 hv] (pre++(mid++[dNe (Q0 (J9 Y Y)) (Q0 W) (hh _) (hh _) h3])) E7 Tryz.func199 (by kernel_rfl)
   ·have hB:Ev u v=true:=by unfold Ev B9k;rw[e2,h1,h3];rfl
    rw[B1q hB,hB,e2];unfold C6x;cases h4:A4s Y
    ·exact E8 (g:=Hc) 60 [Ca u 5 hu,Ca v 5 hv] (pre++(mid++[dNe (Q0 (J9 Y Y)) (Q0 W) (hh _) (hh _) h3,dB (b:=false) (h4▸Lj Y rfl)])) E7 Tryz.func199 (by kernel_rfl)
    ·exact E8 (g:=Hc) 60 [Ca u 5 hu,Ca v 5 hv] (pre++(mid++[dNe (Q0 (J9 Y Y)) (Q0 W) (hh _) (hh _) h3,dB (b:=true) (h4▸Lj Y rfl),dE (Cb (T9 5) Y rfl rfl) rfl])) E7 Tryz.func199 (by kernel_rfl)
  ·have e2:Lx u v=X:=by unfold Lx B9k;rw[h2];rfl
   let mid:DL w:=[dNe (Q0 (J9 X X)) (Q0 W) (hh _) (hh _) h2,mul X X rfl rfl,hash (J9 X X) rfl,hash W rfl,dNe (Q0 (J9 X X)) (Q0 W) (hh _) (hh _) h2]
   have hB:Ev u v=true:=by unfold Ev B9k;rw[e2,h1,h2];rfl
   rw[B1q hB,hB,e2];unfold C6x;cases h4:A4s X
   ·exact E8 (g:=Hc) 60 [Ca u 5 hu,Ca v 5 hv] (pre++(mid++[dB (b:=false) (h4▸Lj X rfl)])) E7 Tryz.func199 (by kernel_rfl)
   ·exact E8 (g:=Hc) 60 [Ca u 5 hu,Ca v 5 hv] (pre++(mid++[dB (b:=true) (h4▸Lj X rfl),dE (Cb (T9 5) X rfl rfl) rfl])) E7 Tryz.func199 (by kernel_rfl)
 ·have hB:Ev u v=false:=by unfold Ev;rw[h1];rfl
  rw[C0w hB,hB];exact E8 (g:=Hc) 60 [Ca u 5 hu,Ca v 5 hv] [hash v hv,dEq (Q0 v) (z8 32) (hh v) rfl h1] E7 Tryz.func199 (by kernel_rfl)
end
section
def Gq (p q:Pn) (k:List UInt64):Pn:=
 let a:=J9 (Gh p.y p.x) (Gh q.y q.x)
 let b:=J9 (Fj p.y p.x) (Fj q.y q.x)
 let c:=J9 (J9 p.t k) q.t
 let d:=J9 p.z q.z
 let d2:=Fj d d
 let e:=Gh b a
 let f:=Gh d2 c
 let g:=Fj d2 c
 let h:=Fj b a
 ⟨J9 e f,J9 g h,J9 f g,J9 e h⟩
theorem Di (p q:Pn) (k:List UInt64):(Gq p q k).Ok:=⟨rfl,rfl,rfl,rfl⟩
set_option maxRecDepth 100000
theorem Qv (p q:Pn) (k:List UInt64) (hp:p.Ok) (hq:q.Ok) (hk:k.length=5) (w:World):Calls Tryz.prog 149 #[p.val,q.val,H7 k] w fun e w'=>e=.returned (Gq p q k).val∧Below w.heap.size w w':=by
 let a:=J9 (Gh p.y p.x) (Gh q.y q.x)
 let b:=J9 (Fj p.y p.x) (Fj q.y q.x)
 let c:=J9 (J9 p.t k) q.t
 let d:=Fj (J9 p.z q.z) (J9 p.z q.z)
 exact E8 (g:=Hc) 60 (p.av hp++(q.av hq++[Ca k 5 hk]))
  [dE (Cb p.y p.x hp.y hp.x) rfl,dE (Cb q.y q.x hq.y hq.x) rfl,dE (O5 (Gh p.y p.x) (Gh q.y q.x) rfl rfl) rfl,
   dE (Dj p.y p.x hp.y hp.x) rfl,dE (Dj q.y q.x hq.y hq.x) rfl,dE (O5 (Fj p.y p.x) (Fj q.y q.x) rfl rfl) rfl,
   dE (O5 p.t k hp.t hk) rfl,dE (O5 (J9 p.t k) q.t rfl hq.t) rfl,
   dE (O5 p.z q.z hp.z hq.z) rfl,dE (Dj (J9 p.z q.z) (J9 p.z q.z) rfl rfl) rfl,
   dE (Cb b a rfl rfl) rfl,dE (Cb d c rfl rfl) rfl,dE (Dj d c rfl rfl) rfl,dE (Dj b a rfl rfl) rfl,
   dE (O5 (Gh b a) (Gh d c) rfl rfl) rfl,dE (O5 (Fj d c) (Fj b a) rfl rfl) rfl,dE (O5 (Gh d c) (Fj d c) rfl rfl) rfl,dE (O5 (Gh b a) (Fj b a) rfl rfl) rfl]
  E7 Tryz.func149 (by kernel_rfl)
end
section
def Qb (p:Pn):Pn:=
 let a:=J9 p.x p.x
 let b:=J9 p.y p.y
 let c:=J9 p.z p.z
 let h:=Fj a b
 let s:=Fj p.x p.y
 let e:=Gh h (J9 s s)
 let g:=Gh a b
 let f:=Fj (Fj c c) g
 ⟨J9 e f,J9 g h,J9 f g,J9 e h⟩
theorem Zt (p:Pn):(Qb p).Ok:=⟨rfl,rfl,rfl,rfl⟩
set_option maxRecDepth 100000
theorem Xh (p:Pn) (hp:p.Ok) (w:World):Calls Tryz.prog 148 #[p.val] w fun e w'=>e=.returned (Qb p).val∧Below w.heap.size w w':=by
 let a:=J9 p.x p.x
 let b:=J9 p.y p.y
 let c:=J9 p.z p.z
 let h:=Fj a b
 let s:=Fj p.x p.y
 let e:=Gh h (J9 s s)
 let g:=Gh a b
 let f:=Fj (Fj c c) g
 exact E8 (g:=Hc) 60 (p.av hp)
  [dE (O5 p.x p.x hp.x hp.x) rfl,dE (O5 p.y p.y hp.y hp.y) rfl,dE (O5 p.z p.z hp.z hp.z) rfl,dE (Dj a b rfl rfl) rfl,dE (Dj p.x p.y hp.x hp.y) rfl,
   dE (O5 s s rfl rfl) rfl,dE (Cb h (J9 s s) rfl rfl) rfl,dE (Cb a b rfl rfl) rfl,dE (Dj c c rfl rfl) rfl,dE (Dj (Fj c c) g rfl rfl) rfl,
   dE (O5 e f rfl rfl) rfl,dE (O5 g h rfl rfl) rfl,dE (O5 f g rfl rfl) rfl,dE (O5 e h rfl rfl) rfl]
  E7 Tryz.func148 (by kernel_rfl)
end
section
def D5z:List UInt8:=[163,120,89,19,202,77,235,117,171,216,65,65,77,10,112,0,152,232,121,119,121,64,199,140,115,254,111,43,238,108,3,82]
@[simp, go_sem] theorem B3k : D5z.length = 32 := rfl
attribute [irreducible] D5z
def C1v:List UInt8:=[89,241,178,38,148,155,214,235,86,177,131,130,154,20,224,0,48,209,243,238,242,128,142,25,231,252,223,86,220,217,6,36]
@[simp, go_sem] theorem A9f : C1v.length = 32 := rfl
attribute [irreducible] C1v
def B1k:List UInt8:=[26,213,37,143,96,45,86,201,178,167,37,149,96,199,44,105,92,220,214,253,49,226,164,192,254,83,110,205,211,54,105,33]
@[simp, go_sem] theorem B0e : B1k.length = 32 := rfl
attribute [irreducible] B1k
def B4n:List UInt8:=[88,102,102,102,102,102,102,102,102,102,102,102,102,102,102,102,102,102,102,102,102,102,102,102,102,102,102,102,102,102,102,102]
@[simp, go_sem] theorem A9w : B4n.length = 32 := rfl
attribute [irreducible] B4n
def Bj:Pn:=⟨T9 5,T9 5,T9 5,T9 5⟩
theorem Cp:Bj.Ok:=⟨by simp[Bj],by simp[Bj],by simp[Bj],by simp[Bj]⟩
def Z7 (x y:List UInt64):Pn:=⟨x,y,Bm 1,J9 x y⟩
theorem Bq {x y:List UInt64} (hx:x.length=5) (hy:y.length=5):(Z7 x y).Ok:=⟨hx,hy,rfl,rfl⟩
def dee:List UInt64:=U8 D5z
def X3:List UInt64:=U8 C1v
@[simp, go_sem] theorem A4f : dee.length = 5 := F0 _
@[simp, go_sem] theorem P6 : X3.length = 5 := F0 _
def P4 (p:Pn):Pn:=if p.row==T9 20 then Z7 (Bm 0) (Bm 1) else p
theorem T6 {p:Pn} (hp:p.Ok):(P4 p).Ok:=by
 unfold P4;split
 ·exact Bq rfl rfl
 ·exact hp
def Z1:Pn:=Z7 (U8 B1k) (U8 B4n)
theorem Q7:Z1.Ok:=Bq (F0 _) (F0 _)
def C6r (p q:Pn):Pn:=Gq (P4 p) (P4 q) X3
def B9t (p:Pn):Pn:=⟨Gh (Bm 0) (P4 p).x,(P4 p).y,(P4 p).z,Gh (Bm 0) (P4 p).t⟩
theorem Nd (p q:Pn):(C6r p q).Ok:=Di _ _ _
theorem C1t {p:Pn} (hp:p.Ok):(B9t p).Ok:=⟨rfl,(T6 hp).y,(T6 hp).z,rfl⟩
set_option maxRecDepth 100000
theorem Pj (x y:List UInt64) (hx:x.length=5) (hy:y.length=5) (w:World):Calls Tryz.prog 143 #[H7 x,H7 y] w fun e w'=>e=.returned (Z7 x y).val∧Below w.heap.size w w':=
 E8 (g:=Hc) 60 [Ca x 5 hx,Ca y 5 hy] [dE (Hh 1) rfl,dE (O5 x y hx hy) rfl] E7 Tryz.func143 (by kernel_rfl)
theorem B6p (x y:List UInt64) (hx:x.length=5) (hy:y.length=5) (w:World):Calls Tryz.prog 143 #[H7 x,H7 y] w fun e w'=>e=.returned (H7 (Z7 x y).row)∧Below w.heap.size w w':=by
 simp only[Pn.seg];exact Pj x y hx hy w
theorem Ec (b:List UInt8) (hb:b.length=32) (w:World):Calls Tryz.prog 144 #[A8 b] w fun e w'=>e=.returned (H7 (U8 b))∧Below w.heap.size w w':=
 E8 (g:=Hc) 60 [Km b 32 hb] [dEB (B4j b hb) (F0 b)] E7 Tryz.func144 (by kernel_rfl)
theorem D5r (w:World):Calls Tryz.prog 200 #[] w fun e w'=>e=.returned (H7 dee)∧Below w.heap.size w w':=
 E8 (g:=Hc) 60 [] [dE (Ec D5z B3k) (F0 _)] E7 Tryz.func200 (by kernel_rfl)
theorem Wq (w:World):Calls Tryz.prog 146 #[] w fun e w'=>e=.returned (H7 X3)∧Below w.heap.size w w':=
 E8 (g:=Hc) 60 [] [dE (Ec C1v A9f) (F0 _)] E7 Tryz.func146 (by kernel_rfl)
theorem Xl (w:World):Calls Tryz.prog 99 #[] w fun e w'=>e=.returned Z1.val∧Below w.heap.size w w':=
 E8 (g:=Hc) 60 [] [dE (Ec B1k B0e) (F0 _),dE (Ec B4n A9w) (F0 _),dP (Pj (U8 B1k) (U8 B4n) (F0 _) (F0 _)) Q7] E7 Tryz.func99 (by kernel_rfl)
theorem D4z (p q:Pn) (hp:p.Ok) (hq:q.Ok) (X Y:Operand) (W:World):(do eqGuard .eql 182 X Y p.val q.val;binOp .eql 182 p.val q.val:Sem Value).run Tryz.prog W=.ok (.bool (p.row==q.row)) W:=by
 rw[←Pn.seg,←Pn.seg];have aA:(eqGuard .eql 182 X Y (H7 p.row) (H7 q.row)).run Tryz.prog W=.ok () W:=run_eqGuard_agg (P:=Tryz.prog) W .eql 182 X Y _ _ (by kernel_rfl);have e1:(binOp .eql 182 (H7 p.row) (H7 q.row)).run Tryz.prog W=.ok (.bool (p.row==q.row)) W:=by
  rw[H7,H7,run_eql_struct];exact congrArg (fun r:Result Bool=>r.andThen fun b w'=>Result.ok (Value.bool b) w') (B6d 9996 W p.row q.row hp.row hq.row)
 simp only[Sem.run_bind,aA,Result.andThen_ok,e1]
def D3h {Φ:Fcts} {S:World→Prop} (p q:Pn) (hp:p.Ok) (hq:q.Ok) {b:Bool} (hb:(p.row==q.row)=b):DC Tryz.prog Φ S:=Vx (op:=.eql) (t:=182) (x:=p.val) (y:=q.val) (v:=.bool b) (by rw[←hb];exact D4z p q hp hq) rfl
theorem Mi (p:Pn) (hp:p.Ok) (w:World):Calls Tryz.prog 151 #[p.val] w fun e w'=>e=.returned (P4 p).val∧Below w.heap.size w w':=by
 unfold P4;cases h:p.row==T9 20
 ·exact E8 (g:=Hc) 60 (p.av hp) [D3h p Bj hp Cp h] E7 Tryz.func151 (by kernel_rfl)
 ·exact E8 (g:=Hc) 60 (p.av hp) [D3h p Bj hp Cp h,dE (Hh 0) rfl,dE (Hh 1) rfl,dP (Pj (Bm 0) (Bm 1) rfl rfl) (Bq rfl rfl)] E7 Tryz.func151 (by kernel_rfl)
theorem B7d (p q:Pn) (hp:p.Ok) (hq:q.Ok) (w:World):Calls Tryz.prog 201 #[p.val,q.val] w fun e w'=>e=.returned (C6r p q).val∧Below w.heap.size w w':=
 E8 (g:=Hc) 60 (p.av hp++q.av hq) [dP (Mi p hp) (T6 hp),dP (Mi q hq) (T6 hq),dE Wq P6,dP (Qv (P4 p) (P4 q) X3 (T6 hp) (T6 hq) P6) (Di _ _ _)] E7 Tryz.func201 (by kernel_rfl)
theorem E2p (p:Pn) (hp:p.Ok) (w:World):Calls Tryz.prog 166 #[p.val] w fun e w'=>e=.returned (B9t p).val∧Below w.heap.size w w':=
 E8 (g:=Hc) 60 (p.av hp) [dP (Mi p hp) (T6 hp),dE (Hh 0) rfl,dE (Cb (Bm 0) (P4 p).x rfl (T6 hp).x) rfl,dE (Cb (Bm 0) (P4 p).t rfl (T6 hp).t) rfl] E7 Tryz.func166 (by kernel_rfl)
end
section
def B5w (q:Pn) (i:List UInt64):List UInt8:=if A4s (J9 q.x i) then (Q0 (J9 q.y i)).set 31 (g8 (Q0 (J9 q.y i)) 31 ||| 128) else Q0 (J9 q.y i)
def Gs (p:Pn):List UInt8:=B5w (P4 p) (Zr (P4 p).z)
@[simp, go_sem] theorem Y9 (p : Pn) : (Gs p).length = 32 := by unfold Gs B5w; split <;> simp
theorem C4c {p:Pn} (h:A4s (J9 (P4 p).x (Zr (P4 p).z))=true):Gs p=(Q0 (J9 (P4 p).y (Zr (P4 p).z))).set 31 (g8 (Q0 (J9 (P4 p).y (Zr (P4 p).z))) 31 ||| 128):=by unfold Gs B5w;rw[if_pos h]
theorem C9o {p:Pn} (h:A4s (J9 (P4 p).x (Zr (P4 p).z))=false):Gs p=Q0 (J9 (P4 p).y (Zr (P4 p).z)):=by unfold Gs B5w;rw[if_neg (by rw[h];decide)]
set_option maxRecDepth 100000
theorem Vs (p:Pn) (hp:p.Ok) (w:World):Calls Tryz.prog 101 #[p.val] w fun e w'=>e=.returned (A8 (Gs p))∧Below w.heap.size w w':=by
 let q:=P4 p
 have hq:q.Ok:=T6 hp;let i:=Zr q.z
 let l:=Q0 (J9 q.y i)
 have hl:l.length=32:=Af _;let pre:DL w:=[dP (Mi p hp) hq,dE (C1f q.z hq.z) rfl,dE (O5 q.y i hq.y rfl) rfl,D8m (Hg (J9 q.y i) rfl) hl,dE (O5 q.x i hq.x rfl) rfl]
 cases h:A4s (J9 q.x i)
 ·rw[C9o h,Rf hl];exact E8 (g:=gB) 60 (p.av hp) (pre++[dB (b:=false) (h▸Lj (J9 q.x i) rfl)]) E7 Tryz.func101 (by kernel_rfl)
 ·rw[C4c h,D6u hl];exact E8 (g:=gB) 60 (p.av hp) (pre++[dB (b:=true) (h▸Lj (J9 q.x i) rfl),dOr (g8 l 31) 128]) E7 Tryz.func101 (by kernel_rfl)
end
section
def Zm (b:List UInt8):List UInt8:=b.set 31 (g8 b 31 &&& 127)
theorem B3f {b:List UInt8} (h:b.length=32):(Zm b).length=32:=by unfold Zm;rw[List.length_set];exact h
def A8a (b:List UInt8):List UInt64:=U8 (Zm b)
theorem Zd (b:List UInt8):(A8a b).length=5:=F0 _
def B1c (b:List UInt8):List UInt64:=Gh (J9 (A8a b) (A8a b)) (Bm 1)
def B4d (b:List UInt8):List UInt64:=Fj (J9 (J9 (A8a b) (A8a b)) dee) (Bm 1)
def B5a (b:List UInt8):List UInt64:=Ze (B1c b) (B4d b)
def Xg (b:List UInt8):Bool:=g8 b 31 >>> 7==1
def Gu (b:List UInt8):Bool:=Sw (Zm b)&&(Ev (B1c b) (B4d b) && !(Xg b&&Q0 (B5a b)==z8 32))
def Fs (b:List UInt8):Pn:=if Gu b then Z7 (if Xg b then Gh (Bm 0) (B5a b) else B5a b) (A8a b) else Bj
def Ql (b:List UInt8):Int:=if Gu b then 0 else 50
theorem Vb (b:List UInt8):(Fs b).Ok:=by
 unfold Fs;split
 ·refine Bq ?_ (Zd b);split
  ·rfl
  ·exact Va _ _
 ·exact Cp
theorem Zx {b:List UInt8} (h:Gu b=false):Fs b=Bj∧Ql b=50:=by unfold Fs Ql;rw[if_neg (by rw[h];decide),if_neg (by rw[h];decide)];exact ⟨rfl,rfl⟩
theorem B4g {b:List UInt8} (h:Sw (Zm b)=false):Fs b=Bj∧Ql b=50:=Zx (by unfold Gu;rw[h];rfl)
theorem B5x {b:List UInt8} (h:Ev (B1c b) (B4d b)=false):Fs b=Bj∧Ql b=50:=Zx (by unfold Gu;rw[h];simp)
theorem C9n {b:List UInt8} (h:Xg b=true) (h2:(Q0 (B5a b)==z8 32)=true):Fs b=Bj∧Ql b=50:=Zx (by unfold Gu;rw[h,h2];simp)
theorem C7u {b:List UInt8} (h0:Sw (Zm b)=true) (h1:Ev (B1c b) (B4d b)=true) (h:Xg b=false):Fs b=Z7 (B5a b) (A8a b)∧Ql b=0:=by
 have e:Gu b=true:=by unfold Gu;rw[h0,h1,h];rfl
 unfold Fs Ql;rw[if_pos e,if_pos e,if_neg (by rw[h];decide)];exact ⟨rfl,rfl⟩
theorem D6d {b:List UInt8} (h0:Sw (Zm b)=true) (h1:Ev (B1c b) (B4d b)=true) (h:Xg b=true) (h2:(Q0 (B5a b)==z8 32)=false):Fs b=Z7 (Gh (Bm 0) (B5a b)) (A8a b)∧Ql b=0:=by
 have e:Gu b=true:=by unfold Gu;rw[h0,h1,h,h2];rfl
 unfold Fs Ql;rw[if_pos e,if_pos e,if_pos h];exact ⟨rfl,rfl⟩
set_option maxRecDepth 100000
theorem E0n {b:List UInt8} (hb:b.length=32):A8 (Zm b)=b31 b (g8 b 31 &&& 127):=D6u hb _
theorem B6j (b:List UInt8) (hb:b.length=32) (w:World):Calls Tryz.prog 162 #[A8 b] w fun e w'=>e=.returned (.tuple #[H7 (Fs b).row,.int .i64 (Ql b)])∧Below w.heap.size w w':=by
 rw[Pn.seg,Rf hb];let y:=A8a b
 have hy:=Zd b;let ρ:=[Km (b.take 31) 31 (by simp[hb]),Km [g8 b 31] 1 rfl]
 have aB:∀W,Calls Tryz.prog 184 #[b31 b (g8 b 31 &&& 127)] W fun e W'=>e=.returned (.tuple #[H7 y,.bool (Sw (Zm b))])∧Below W.heap.size W W':=by rw[←E0n hb];exact B4j (Zm b) (B3f hb)
 have aA:=C2w (B1c b) (B4d b) rfl rfl;let mid:DL w:=[dE (O5 y y hy hy) rfl,dE (Hh 1) rfl,dE (Cb (J9 y y) (Bm 1) rfl rfl) rfl,dE D5r A4f,dE (O5 (J9 y y) dee rfl A4f) rfl,dE (Dj (J9 (J9 y y) dee) (Bm 1) rfl rfl) rfl]
 let x:=B5a b
 have hx:x.length=5:=Va _ _;cases ho:Xg b
 ·let pre:DL w:=[E1e (g8 b 31) .u64 7 (by decide),D6o (g8 b 31 >>> 7) 1 ho,C4o (g8 b 31) 127]
  cases h0:Sw (Zm b)
  ·obtain⟨e1,e2⟩:=B4g h0;rw[e1,e2];exact E8 (g:=gB) 60 ρ (pre++[dEB (b:=false) (h0▸aB) hy]) E7 Tryz.func162 (by kernel_rfl)
  ·cases h1:Ev (B1c b) (B4d b)
   ·obtain⟨e1,e2⟩:=B5x h1;rw[e1,e2];exact E8 (g:=gB) 60 ρ (pre++(dEB (b:=true) (h0▸aB) hy::(mid++[dEB (b:=false) (h1▸aA) hx]))) E7 Tryz.func162 (by kernel_rfl)
   ·obtain⟨e1,e2⟩:=C7u h0 h1 ho;rw[e1,e2];exact E8 (g:=gB) 60 ρ (pre++(dEB (b:=true) (h0▸aB) hy::(mid++[dEB (b:=true) (h1▸aA) hx,dP (Pj x y hx hy) (Bq hx hy)]))) E7 Tryz.func162 (by kernel_rfl)
 ·let pre:DL w:=[E1e (g8 b 31) .u64 7 (by decide),D6o (g8 b 31 >>> 7) 1 ho,C4o (g8 b 31) 127]
  cases h0:Sw (Zm b)
  ·obtain⟨e1,e2⟩:=B4g h0;rw[e1,e2];exact E8 (g:=gB) 60 ρ (pre++[dEB (b:=false) (h0▸aB) hy]) E7 Tryz.func162 (by kernel_rfl)
  ·cases h1:Ev (B1c b) (B4d b)
   ·obtain⟨e1,e2⟩:=B5x h1;rw[e1,e2];exact E8 (g:=gB) 60 ρ (pre++(dEB (b:=true) (h0▸aB) hy::(mid++[dEB (b:=false) (h1▸aA) hx]))) E7 Tryz.func162 (by kernel_rfl)
   ·cases h2:Q0 x==z8 32
    ·obtain⟨e1,e2⟩:=D6d h0 h1 ho h2;rw[e1,e2];exact E8 (g:=gB) 60 ρ (pre++(dEB (b:=true) (h0▸aB) hy::(mid++[dEB (b:=true) (h1▸aA) hx,D8m (Hg x hx) (Af _),D7t (Q0 x) (z8 32) (Af _) rfl h2,dE (Hh 0) rfl,dE (Cb (Bm 0) x rfl hx) rfl,dP (Pj (Gh (Bm 0) x) y rfl hy) (Bq rfl hy)]))) E7 Tryz.func162 (by kernel_rfl)
    ·obtain⟨e1,e2⟩:=C9n ho h2;rw[e1,e2];exact E8 (g:=gB) 60 ρ (pre++(dEB (b:=true) (h0▸aB) hy::(mid++[dEB (b:=true) (h1▸aA) hx,D8m (Hg x hx) (Af _),D7t (Q0 x) (z8 32) (Af _) rfl h2]))) E7 Tryz.func162 (by kernel_rfl)
end
section
def Pl (ps:List Pn):List UInt64:=(ps.map Pn.row).flatten
def Ez (ps:List Pn):Prop:=∀p∈ps,p.Ok
theorem Z3:∀ {ps:List Pn},Ez ps→(Pl ps).length=ps.length*20
 | [],_=>rfl
 | p::ps,h=>by
  have h1:=Z3 (ps:=ps) fun q hq=>h q (by simp[hq]);have h2:=(h p (by simp)).row;show (p.row++Pl ps).length=_;rw[List.length_append,h1,h2,List.length_cons];omega
theorem C8u:∀ {ps:List Pn} (i:Nat),Ez ps→i<ps.length→((Pl ps).drop (i*20)).take 20=(ps.getD i Bj).row
 | p::ps,0,h,_=>by
  have h2:=(h p (by simp)).row;show (p.row++Pl ps).take 20=p.row;rw[List.take_append_of_le_length (by omega),List.take_of_length_le (by omega)]
 | p::ps,i+1,h,hi=>by
  have h2:=(h p (by simp)).row;have h1:=C8u (ps:=ps) i (fun q hq=>h q (by simp[hq])) (by simpa using hi);show ((p.row++Pl ps).drop ((i+1)*20)).take 20=_;rw[show (i+1)*20=p.row.length+i*20 by omega,List.drop_append,List.drop_eq_nil_of_le (by omega),List.nil_append,Nat.add_sub_cancel_left,h1];rfl
theorem D1e:∀ {ps:List Pn} (i:Nat) {q:Pn},Ez ps→q.Ok→i<ps.length→(Pl ps).take (i*20)++q.row++(Pl ps).drop (i*20+20)=Pl (ps.set i q)
 | p::ps,0,q,h,hq,_=>by
  have h2:=(h p (by simp)).row;show (p.row++Pl ps).take 0++q.row++(p.row++Pl ps).drop (0+20)=q.row++Pl ps;rw[show 0+20=p.row.length+0 by omega,List.drop_append];simp
 | p::ps,i+1,q,h,hq,hi=>by
  have h2:=(h p (by simp)).row;have h1:=D1e (ps:=ps) i (fun q hq=>h q (by simp[hq])) hq (by simpa using hi);show (p.row++Pl ps).take ((i+1)*20)++q.row++(p.row++Pl ps).drop ((i+1)*20+20)=p.row++Pl (ps.set i q);rw[←h1,show (i+1)*20+20=p.row.length+(i*20+20) by omega,List.drop_append,List.drop_eq_nil_of_le (by omega),List.nil_append,Nat.add_sub_cancel_left,show (i+1)*20=p.row.length+i*20 by omega,List.take_append,List.take_of_length_le (by omega),Nat.add_sub_cancel_left];simp
theorem Ez.getD {ps:List Pn} (h:Ez ps) (i:Nat):(ps.getD i Bj).Ok:=by
 by_cases hi:i<ps.length
 ·rw[List.getD_eq_getElem?_getD,List.getElem?_eq_getElem hi];exact h _ (List.getElem_mem hi)
 ·rw[List.getD_eq_getElem?_getD,List.getElem?_eq_none (by omega)];exact Cp
def Eh (ps:List Pn) (i:Nat):Pn:=ps.getD i Bj
theorem Ez.at {ps:List Pn} (h:Ez ps) (i:Nat):(Eh ps i).Ok:=h.getD i
section
variable {w : World} {g : Nat} {t : TypeId} {ps : List Pn}
theorem Bk.plAt (K:Bk w g t (E4 (Pl ps))) (h:Ez ps) {i:Nat} (hi:i<ps.length):C4 w ⟨g,i*20,none⟩ 20=some (E4 (Eh ps i).row):=by
 show _=some (E4 (ps.getD i Bj).row);have hl:=Z3 h;rw[K.rowMid (i*20) 20 (by simp[hl];omega),←C8u i h hi];simp[E4]
theorem Bk.plCan (K:Bk w g t (E4 (Pl ps))) (h:Ez ps) {i:Nat} (hi:i<ps.length):F9 w ⟨g,i*20,none⟩ 20=true:=by
 have hl:=Z3 h;exact K.can (by simp[hl];omega)
theorem Bk.plPut (K:Bk w g t (E4 (Pl ps))) (h:Ez ps) {i:Nat} (hi:i<ps.length) {q:Pn} (hq:q.Ok):Bk (C2 w ⟨g,i*20,none⟩ (E4 q.row)) g t (E4 (Pl (ps.set i q))):=by
 have hl:=Z3 h;have h1:=K.put (o:=i*20) (vs:=E4 q.row) (by simp[hl,hq.row];omega);rw[←D1e i h hq hi];simpa [E4,hq.row] using h1
end
def Ie (f:Nat→Pn) (n m:Nat):List Pn:=(List.range n).map fun i=>if i<m then f i else Bj
@[simp] theorem B1r (f : Nat → Pn) (n m : Nat) : (Ie f n m).length = n := by simp [Ie]
theorem Jq {f:Nat→Pn} (hf:∀i,(f i).Ok) (n m:Nat):Ez (Ie f n m):=fun p hp=>by
 obtain⟨i,_,rfl⟩:=List.mem_map.1 hp;split
 ·exact hf i
 ·exact Cp
theorem D0x {f:Nat→Pn} {n m i:Nat} (hi:i<n):(Ie f n m).getD i Bj=if i<m then f i else Bj:=by
 rw[List.getD_eq_getElem?_getD];simp[Ie,hi]
theorem C1z {f:Nat→Pn} {n m i:Nat} (hi:i<n):Eh (Ie f n m) i=if i<m then f i else Bj:=D0x hi
theorem D2r {f:Nat→Pn} {n m:Nat} (hm:m<n) {q:Pn} (hq:q=f m):(Ie f n m).set m q=Ie f n (m+1):=by
 subst hq;apply List.ext_getElem
 ·simp
 ·intro i h1 h2;simp only[Ie,List.getElem_set,List.getElem_map,List.getElem_range];by_cases e:m=i
  ·subst e;simp
  ·rw[if_neg e];by_cases h:i<m
   ·rw[if_pos h,if_pos (by omega)]
   ·rw[if_neg h,if_neg (by omega)]
theorem D9y (f:Nat→Pn):Pl (Ie f 32 0)=T9 640:=by kernel_rfl
def Wa (n:List UInt8) (i:Nat):UInt8:=g8 n (i / 2) >>> UInt8.ofNat (4*(i % 2)) &&& 15
theorem C0b (n:List UInt8) (i:Nat):(Wa n i).toNat<16:=by
 unfold Wa;rw[UInt8.toNat_and];exact Nat.lt_of_le_of_lt Nat.and_le_right (by decide)
theorem C4y (n:List UInt8) (hn:n.length=32) (i:Nat) (hi:i<64) (w:World):Calls Tryz.prog 150 #[A8 n,.int .i64 (i:Int)] w fun e w'=>e=.returned (.int .u8 (n8 (Wa n i)))∧Below w.heap.size w w':=by
 have aB:(i:Int) / 2=((i / 2:Nat):Int):=by omega
 have aC:(i:Int) % 2=((i % 2:Nat):Int):=by omega
 have aD:i / 2<32:=by omega
 have h2:i % 2<2:=by omega
 have k0:=(Bk.new w 40 (c8 n)).at_ (Nh (l:=n) (i:=i / 2) (by omega));obtain⟨D,hD⟩:=D9 (Wa n i);have aA:D=g8 n (i / 2) >>> UInt8.ofNat (4*(i % 2)) &&& 15:=hD;have HD:=Lib.hid hD;rw[←hD];have HE:=Lib.hid aA;clear hD aA;have hB:Below w.heap.size w (w.alloc (Obj.cells (c8 n).toArray 40)):=U7 _ _;generalize i / 2=q at *;generalize i % 2=r at *;obtain⟨s,hs⟩:=D9 (4*r);have h4:4*(r:Int)=(s:Int):=by omega
 have aE:s<8:=by omega
 have HS:=Lib.hid hs;clear hs;go_enter Tryz.func150,Tryz.ntmps150;go_wp2_with fail;go_ret;exact ⟨by rw[HE.out,HS.out];rfl,hB⟩
end
section
def dg (n:List UInt8) (i:Nat):Nat:=(Wa n i).toNat
theorem B4x (n:List UInt8) (i:Nat):dg n i<16:=C0b n i
theorem Ua (n:List UInt8) (hn:n.length=32) (i:Nat) (hi:i<64) (w:World):Calls Tryz.prog 150 #[A8 n,.int .i64 (i:Int)] w fun e w'=>e=.returned (.int .u8 ((dg n i:Nat):Int))∧Below w.heap.size w w':=C4y n hn i hi w
def B8t (p:Pn) (k:List UInt64):Nat→Pn
 | 0=>P4 Bj
 | 1=>P4 p
 | i+2=>Gq (B8t p k (i+1)) (P4 p) k
theorem A9d {p:Pn} (hp:p.Ok) (k:List UInt64):∀i,(B8t p k i).Ok
 | 0=>T6 Cp
 | 1=>T6 hp
 | i+2=>Di _ _ _
def Bo (p:Pn) (k:List UInt64):List Pn:=Ie (B8t p k) 16 16
theorem Px {p:Pn} (hp:p.Ok) (k:List UInt64):Ez (Bo p k):=Jq (A9d hp k) 16 16
@[simp, go_sem] theorem Mn (p : Pn) (k : List UInt64) : (Bo p k).length = 16 := B1r _ _ _
theorem Wt {p:Pn} {k:List UInt64} {i:Nat} (hi:i<16):Eh (Bo p k) i=B8t p k i:=by
 unfold Bo;rw[C1z hi,if_pos hi]
def plC:List Pn→List Value
 | []=>[]
 | [q]=>E4 q.x++(E4 q.y++(E4 q.z++E4 q.t))
 | q::l=>E4 q.x++(E4 q.y++(E4 q.z++(E4 q.t++plC l)))
theorem C6j:∀l:List Pn,E4 (Pl l)=plC l
 | []=>rfl
 | [q]=>by simp[plC,Pl,Pn.row,ptl,E4]
 | q::r::l=>by
  have ih:=C6j (r::l);have h:E4 (Pl (q::r::l))=E4 q.row++E4 (Pl (r::l)):=by simp[Pl,E4]
  rw[h,ih];simp[plC,Pn.row,ptl,E4]
set_option maxRecDepth 100000
theorem D3c (p:Pn) (k:List UInt64) (hp:p.Ok) (hk:k.length=5) (w:World):Calls Tryz.prog 147 #[H7 p.row,H7 k] w fun e w'=>e=.returned (H7 (Pl (Bo p k)))∧Below w.heap.size w w':=by
 rw[Pn.seg,show H7 (Pl (Bo p k))=.agg (plC (Bo p k)).toArray by rw[H7,C6j]];exact E8 (g:=Hc) 100 (p.av hp++[Ca k 5 hk]) ([dP (Mi Bj Cp) (T6 Cp),dP (Mi p hp) (T6 hp)]++(List.range 14).map fun i=>dP (Qv (B8t p k (i+1)) (P4 p) k (A9d hp k _) (T6 hp) hk) (A9d hp k (i+2))) E7 Tryz.func147 (by kernel_rfl)
end
end Go.Proofs.YtmllnpokbbabhaaGreat
