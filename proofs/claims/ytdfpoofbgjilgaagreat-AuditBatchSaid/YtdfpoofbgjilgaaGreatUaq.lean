/- A part of the proof of AuditBatch. -/
import Derived.Test.YtdfpoofbgjilgaaGreatUap
set_option linter.unusedVariables false
set_option linter.unusedSimpArgs false
set_option maxRecDepth 100000
set_option maxHeartbeats 40000000
namespace Go.Proofs.YtdfpoofbgjilgaaGreat
open Go Go.RowKit Sh
section
def Gc:Cfg:=⟨fun t=>if t=160 then some [5,5,5,5] else none,fun _=>none,noF⟩
def Pn.val (p:Pn):Value:=.agg (E6 p.x++(E6 p.y++(E6 p.z++E6 p.t))).toArray
theorem Pn.seg (p:Pn):J0 p.row=p.val:=by
 unfold J0 Pn.val Pn.row ptl E6;simp
def Pn.av (p:Pn) (h:p.Ok):List Av:=[Bi p.x 5 h.x,Bi p.y 5 h.y,Bi p.z 5 h.z,Bi p.t 5 h.t]
section
variable {f : FuncId} {args : Array Value} {Φ : Fcts} {S : World → Prop}
def dP {p:Pn} (h:∀W,Calls Tryz.prog f args W fun e W'=>e=.returned p.val∧Below W.heap.size W W') (hp:p.Ok):DC Tryz.prog Φ S:=⟨.call f (fun _=>args) (fun _=>p.val) none (fun _ _=>True),fun _ W _ _=>h W,p.av hp⟩
end
def b31 (l:List UInt8) (x:UInt8):Value:=.agg (c8 (l.take 31)++c8 [x]).toArray
theorem Px {l:List UInt8} (hl:l.length=32):A8 l=b31 l (Sh.g8 l 31):=by
 have h1:l=l.take 31++[Sh.g8 l 31]:=by
  conv=>lhs;rw[←List.take_append_drop 31 l]
  congr 1;rw[List.drop_eq_getElem_cons (by omega),List.drop_eq_nil_of_le (by omega)];simp[Sh.g8,List.getD_eq_getElem?_getD,hl]
 unfold A8 b31;conv=>lhs;rw[h1]
 simp[c8]
theorem D5u {l:List UInt8} (hl:l.length=32) (x:UInt8):A8 (l.set 31 x)=b31 l x:=by
 rw[Px (by simpa using hl)];unfold b31;rw[List.take_set_of_le (by omega)];simp[Sh.g8,List.getD_eq_getElem?_getD,hl]
def D6y {Φ:Fcts} {S:World→Prop} {f:FuncId} {args:Array Value} {l:List UInt8} (h:∀W,Calls Tryz.prog f args W fun e W'=>e=.returned (A8 l)∧Below W.heap.size W W') (hl:l.length=32):DC Tryz.prog Φ S:=
 ⟨.call f (fun _=>args) (fun _=>b31 l (Sh.g8 l 31)) none (fun _ _=>True),fun _ W _ _=>by rw[←Px hl];exact h W,[Jg (l.take 31) 31 (by simp[hl]),Jg [Sh.g8 l 31] 1 rfl]⟩
def D4q {Φ:Fcts} {S:World→Prop} (l m:List UInt8) (hl:l.length=32) (hm:m.length=32) {b:Bool} (hb:(l==m)=b):DC Tryz.prog Φ S:=Tu (op:=.eql) (t:=35) (x:=b31 l (Sh.g8 l 31)) (y:=b31 m (Sh.g8 m 31)) (v:=.bool b) (by rw[←hb,←Px hl,←Px hm];exact B9u l m hl hm) rfl
def gB:Cfg:=⟨fun t=>if t=35 then some [31,1] else Gc.cut t,fun _=>none,noF⟩
end
section
set_option maxRecDepth 100000
theorem B1g (a:List UInt64) (ha:a.length=5) (w:World):Calls Tryz.prog 171 #[J0 a] w fun e w'=>e=.returned (.tuple #[J0 (Tm a),J0 (Ix a)])∧Below w.heap.size w w':=by
 let sq:=fun (n:Nat) (hn:n≤1000000) (x:List UInt64) (hx:x.length=5)=>(dE (Mi x hx n hn) (Xr hx n):DC1 w)
 let mul:=fun (x y:List UInt64) (hx:x.length=5) (hy:y.length=5)=>(dE (N9 x y hx hy) rfl:DC1 w)
 let u:=L6 (Du 20 (f20 a)) (f20 a)
 let v:=L6 (Du 100 (A8l a)) (A8l a)
 exact F8 (g:=Gc) 60 [Bi a 5 ha]
  [dE (Yg a ha) rfl,sq 2 (by decide) (fsq a) rfl,mul (Du 2 (fsq a)) a rfl ha,mul (A4e a) (fsq a) rfl rfl,dE (Yg (Ix a) rfl) rfl,mul (fsq (Ix a)) (A4e a) rfl rfl,
   sq 5 (by decide) (f5 a) rfl,mul (Du 5 (f5 a)) (f5 a) rfl rfl,sq 10 (by decide) (f10 a) rfl,mul (Du 10 (f10 a)) (f10 a) rfl rfl,sq 20 (by decide) (f20 a) rfl,mul (Du 20 (f20 a)) (f20 a) rfl rfl,
   sq 10 (by decide) u rfl,mul (Du 10 u) (f10 a) rfl rfl,sq 50 (by decide) (f50 a) rfl,mul (Du 50 (f50 a)) (f50 a) rfl rfl,sq 100 (by decide) (A8l a) rfl,mul (Du 100 (A8l a)) (A8l a) rfl rfl,sq 50 (by decide) v rfl,mul (Du 50 v) (f50 a) rfl rfl]
  F2 Tryz.func171 (by kernel_rfl)
theorem B7w (a:List UInt64) (ha:a.length=5) (w:World):Calls Tryz.prog 121 #[J0 a] w fun e w'=>e=.returned (J0 (Xt a))∧Below w.heap.size w w':=
 F8 (g:=Gc) 60 [Bi a 5 ha] [dEE (B1g a ha) rfl rfl,dE (Mi (Tm a) rfl 5 (by decide)) rfl,dE (N9 (Du 5 (Tm a)) (Ix a) rfl rfl) rfl] F2 Tryz.func121 (by kernel_rfl)
end
section
theorem A0l (w:World) (g o:Nat) (vs:List Value):w.grownBy (C5 w ⟨g,o,none⟩ vs) (some g):=
 by
 have h:=C1 (B:=g) (a:=⟨g,o,none⟩) (Below.refl g w) (Nat.le_refl g) vs;exact ⟨h.os,h.tape,h.output,h.size,fun k hk hne=>V7 _ _ _ _ _ (fun e=>hne (by rw[e]))⟩
def Zi (u v:List UInt64):List UInt64:=L6 u (Xt v)
def Vz (u v:List UInt64):List UInt64:=L6 (Du 2 (Tm (Zi u v))) (fsq (Zi u v))
def A7i (x w:List UInt64):Bool:=N8 (L6 x x)==N8 w
def Gt (u v:List UInt64):List UInt64:=if A7i (Vz u v) (Zi u v) then Vz u v else L6 (Vz u v) Nj
def B6r (x:List UInt64):List UInt64:=if A0o x then Fm (O8 5) x else x
def Cx (u v:List UInt64):Bool:=!(N8 v==z8 32)&&A7i (Gt u v) (Zi u v)
def Qf (u v:List UInt64):List UInt64:=if Cx u v then B6r (Gt u v) else O8 5
theorem A3b (u v:List UInt64):(Gt u v).length=5:=by unfold Gt;split<;>rfl
theorem Uf (u v:List UInt64):(Qf u v).length=5:=by
 unfold Qf B6r;split
 ·split
  ·rfl
  ·exact A3b u v
 ·rfl
theorem B8j {u v:List UInt64} (h:Cx u v=false):Qf u v=O8 5:=by unfold Qf;rw[if_neg (by rw[h];decide)]
theorem B2t {u v:List UInt64} (h:Cx u v=true):Qf u v=B6r (Gt u v):=by unfold Qf;rw[if_pos h]
set_option maxRecDepth 100000
theorem C2g (u v:List UInt64) (hu:u.length=5) (hv:v.length=5) (w:World):Calls Tryz.prog 211 #[J0 u,J0 v] w fun e w'=>e=.returned (.tuple #[J0 (Qf u v),.bool (Cx u v)])∧Below w.heap.size w w':=by
 have hh:∀x,(N8 x).length=32:=Z3;let hash:=fun (x:List UInt64) (hx:x.length=5)=>(dH (Gk x hx) (hh x):DC1 w)
 let mul:=fun (x y:List UInt64) (hx:x.length=5) (hy:y.length=5)=>(dE (N9 x y hx hy) rfl:DC1 w)
 let W:=Zi u v
 let X:=Vz u v
 cases h1:N8 v==z8 32
 ·let pre:DL w:=[hash v hv,dEq (N8 v) (z8 32) (hh v) rfl h1,dE (B7w v hv) rfl,mul u (Xt v) hu rfl,dEE (B1g W rfl) rfl rfl,dE (Mi (Tm W) rfl 2 (by decide)) rfl,dE (Yg W rfl) rfl,mul (Du 2 (Tm W)) (fsq W) rfl rfl,mul X X rfl rfl,hash (L6 X X) rfl,hash W rfl]
  cases h2:N8 (L6 X X)==N8 W
  ·let Y:=L6 X Nj
   have e2:Gt u v=Y:=by unfold Gt A7i;rw[h2];rfl
   let mid:DL w:=[dNe (N8 (L6 X X)) (N8 W) (hh _) (hh _) h2,dE A6i rfl,mul X Nj rfl rfl,mul Y Y rfl rfl,hash (L6 Y Y) rfl,hash W rfl]
   cases h3:N8 (L6 Y Y)==N8 W
   ·have hB:Cx u v=false:=by unfold Cx A7i;rw[e2,h1,h3];rfl
    rw[B8j hB,hB];exact F8 (g:=Gc) 60 [Bi u 5 hu,Bi v 5 hv] (pre++(mid++[dNe (N8 (L6 Y Y)) (N8 W) (hh _) (hh _) h3])) F2 Tryz.func211 (by kernel_rfl)
   ·have hB:Cx u v=true:=by unfold Cx A7i;rw[e2,h1,h3];rfl
    rw[B2t hB,hB,e2];unfold B6r;cases h4:A0o Y
    ·exact F8 (g:=Gc) 60 [Bi u 5 hu,Bi v 5 hv] (pre++(mid++[dNe (N8 (L6 Y Y)) (N8 W) (hh _) (hh _) h3,dB (b:=false) (h4▸Jl Y rfl)])) F2 Tryz.func211 (by kernel_rfl)
    ·exact F8 (g:=Gc) 60 [Bi u 5 hu,Bi v 5 hv] (pre++(mid++[dNe (N8 (L6 Y Y)) (N8 W) (hh _) (hh _) h3,dB (b:=true) (h4▸Jl Y rfl),dE (Bj (O8 5) Y rfl rfl) rfl])) F2 Tryz.func211 (by kernel_rfl)
  ·have e2:Gt u v=X:=by unfold Gt A7i;rw[h2];rfl
   let mid:DL w:=[dNe (N8 (L6 X X)) (N8 W) (hh _) (hh _) h2,mul X X rfl rfl,hash (L6 X X) rfl,hash W rfl,dNe (N8 (L6 X X)) (N8 W) (hh _) (hh _) h2]
   have hB:Cx u v=true:=by unfold Cx A7i;rw[e2,h1,h2];rfl
   rw[B2t hB,hB,e2];unfold B6r;cases h4:A0o X
   ·exact F8 (g:=Gc) 60 [Bi u 5 hu,Bi v 5 hv] (pre++(mid++[dB (b:=false) (h4▸Jl X rfl)])) F2 Tryz.func211 (by kernel_rfl)
   ·exact F8 (g:=Gc) 60 [Bi u 5 hu,Bi v 5 hv] (pre++(mid++[dB (b:=true) (h4▸Jl X rfl),dE (Bj (O8 5) X rfl rfl) rfl])) F2 Tryz.func211 (by kernel_rfl)
 ·have hB:Cx u v=false:=by unfold Cx;rw[h1];rfl
  rw[B8j hB,hB];exact F8 (g:=Gc) 60 [Bi u 5 hu,Bi v 5 hv] [hash v hv,dEq (N8 v) (z8 32) (hh v) rfl h1] F2 Tryz.func211 (by kernel_rfl)
end
section
def Fz (p q:Pn) (k:List UInt64):Pn:=
 let a:=L6 (Fm p.y p.x) (Fm q.y q.x)
 let b:=L6 (Ex p.y p.x) (Ex q.y q.x)
 let c:=L6 (L6 p.t k) q.t
 let d:=L6 p.z q.z
 let d2:=Ex d d
 let e:=Fm b a
 let f:=Fm d2 c
 let g:=Ex d2 c
 let h:=Ex b a
 ⟨L6 e f,L6 g h,L6 f g,L6 e h⟩
theorem Cs (p q:Pn) (k:List UInt64):(Fz p q k).Ok:=⟨rfl,rfl,rfl,rfl⟩
set_option maxRecDepth 100000
theorem Ps (p q:Pn) (k:List UInt64) (hp:p.Ok) (hq:q.Ok) (hk:k.length=5) (w:World):Calls Tryz.prog 118 #[p.val,q.val,J0 k] w fun e w'=>e=.returned (Fz p q k).val∧Below w.heap.size w w':=by
 let a:=L6 (Fm p.y p.x) (Fm q.y q.x)
 let b:=L6 (Ex p.y p.x) (Ex q.y q.x)
 let c:=L6 (L6 p.t k) q.t
 let d:=Ex (L6 p.z q.z) (L6 p.z q.z)
 exact F8 (g:=Gc) 60 (p.av hp++(q.av hq++[Bi k 5 hk]))
  [dE (Bj p.y p.x hp.y hp.x) rfl,dE (Bj q.y q.x hq.y hq.x) rfl,dE (N9 (Fm p.y p.x) (Fm q.y q.x) rfl rfl) rfl,
   dE (Cv p.y p.x hp.y hp.x) rfl,dE (Cv q.y q.x hq.y hq.x) rfl,dE (N9 (Ex p.y p.x) (Ex q.y q.x) rfl rfl) rfl,
   dE (N9 p.t k hp.t hk) rfl,dE (N9 (L6 p.t k) q.t rfl hq.t) rfl,
   dE (N9 p.z q.z hp.z hq.z) rfl,dE (Cv (L6 p.z q.z) (L6 p.z q.z) rfl rfl) rfl,
   dE (Bj b a rfl rfl) rfl,dE (Bj d c rfl rfl) rfl,dE (Cv d c rfl rfl) rfl,dE (Cv b a rfl rfl) rfl,
   dE (N9 (Fm b a) (Fm d c) rfl rfl) rfl,dE (N9 (Ex d c) (Ex b a) rfl rfl) rfl,dE (N9 (Fm d c) (Ex d c) rfl rfl) rfl,dE (N9 (Fm b a) (Ex b a) rfl rfl) rfl]
  F2 Tryz.func118 (by kernel_rfl)
end
section
def Oo (p:Pn):Pn:=
 let a:=L6 p.x p.x
 let b:=L6 p.y p.y
 let c:=L6 p.z p.z
 let h:=Ex a b
 let s:=Ex p.x p.y
 let e:=Fm h (L6 s s)
 let g:=Fm a b
 let f:=Ex (Ex c c) g
 ⟨L6 e f,L6 g h,L6 f g,L6 e h⟩
theorem Yu (p:Pn):(Oo p).Ok:=⟨rfl,rfl,rfl,rfl⟩
set_option maxRecDepth 100000
theorem Wb (p:Pn) (hp:p.Ok) (w:World):Calls Tryz.prog 117 #[p.val] w fun e w'=>e=.returned (Oo p).val∧Below w.heap.size w w':=by
 let a:=L6 p.x p.x
 let b:=L6 p.y p.y
 let c:=L6 p.z p.z
 let h:=Ex a b
 let s:=Ex p.x p.y
 let e:=Fm h (L6 s s)
 let g:=Fm a b
 let f:=Ex (Ex c c) g
 exact F8 (g:=Gc) 60 (p.av hp)
  [dE (N9 p.x p.x hp.x hp.x) rfl,dE (N9 p.y p.y hp.y hp.y) rfl,dE (N9 p.z p.z hp.z hp.z) rfl,dE (Cv a b rfl rfl) rfl,dE (Cv p.x p.y hp.x hp.y) rfl,
   dE (N9 s s rfl rfl) rfl,dE (Bj h (L6 s s) rfl rfl) rfl,dE (Bj a b rfl rfl) rfl,dE (Cv c c rfl rfl) rfl,dE (Cv (Ex c c) g rfl rfl) rfl,
   dE (N9 e f rfl rfl) rfl,dE (N9 g h rfl rfl) rfl,dE (N9 f g rfl rfl) rfl,dE (N9 e h rfl rfl) rfl]
  F2 Tryz.func117 (by kernel_rfl)
end
section
def D4a:List UInt8:=[163,120,89,19,202,77,235,117,171,216,65,65,77,10,112,0,152,232,121,119,121,64,199,140,115,254,111,43,238,108,3,82]
@[simp, go_sem] theorem B3a : D4a.length = 32 := rfl
attribute [irreducible] D4a
def B7u:List UInt8:=[89,241,178,38,148,155,214,235,86,177,131,130,154,20,224,0,48,209,243,238,242,128,142,25,231,252,223,86,220,217,6,36]
@[simp, go_sem] theorem A7g : B7u.length = 32 := rfl
attribute [irreducible] B7u
def A0h:List UInt8:=[26,213,37,143,96,45,86,201,178,167,37,149,96,199,44,105,92,220,214,253,49,226,164,192,254,83,110,205,211,54,105,33]
@[simp, go_sem] theorem A7z : A0h.length = 32 := rfl
attribute [irreducible] A0h
def A2m:List UInt8:=[88,102,102,102,102,102,102,102,102,102,102,102,102,102,102,102,102,102,102,102,102,102,102,102,102,102,102,102,102,102,102,102]
@[simp, go_sem] theorem A8y : A2m.length = 32 := rfl
attribute [irreducible] A2m
def Aj:Pn:=⟨O8 5,O8 5,O8 5,O8 5⟩
theorem Cc:Aj.Ok:=⟨by simp[Aj],by simp[Aj],by simp[Aj],by simp[Aj]⟩
def Y0 (x y:List UInt64):Pn:=⟨x,y,Ap 1,L6 x y⟩
theorem Bg {x y:List UInt64} (hx:x.length=5) (hy:y.length=5):(Y0 x y).Ok:=⟨hx,hy,rfl,rfl⟩
def dee:List UInt64:=Q3 D4a
def U4:List UInt64:=Q3 B7u
@[simp, go_sem] theorem A0s : dee.length = 5 := H8 _
@[simp, go_sem] theorem P5 : U4.length = 5 := H8 _
def P4 (p:Pn):Pn:=if p.row==O8 20 then Y0 (Ap 0) (Ap 1) else p
theorem T4 {p:Pn} (hp:p.Ok):(P4 p).Ok:=by
 unfold P4;split
 ·exact Bg rfl rfl
 ·exact hp
def X5:Pn:=Y0 (Q3 A0h) (Q3 A2m)
theorem S4:X5.Ok:=Bg (H8 _) (H8 _)
def B0n (p q:Pn):Pn:=Fz (P4 p) (P4 q) U4
def A8m (p:Pn):Pn:=⟨Fm (Ap 0) (P4 p).x,(P4 p).y,(P4 p).z,Fm (Ap 0) (P4 p).t⟩
theorem Lk (p q:Pn):(B0n p q).Ok:=Cs _ _ _
theorem C0d {p:Pn} (hp:p.Ok):(A8m p).Ok:=⟨rfl,(T4 hp).y,(T4 hp).z,rfl⟩
set_option maxRecDepth 100000
theorem Ox (x y:List UInt64) (hx:x.length=5) (hy:y.length=5) (w:World):Calls Tryz.prog 112 #[J0 x,J0 y] w fun e w'=>e=.returned (Y0 x y).val∧Below w.heap.size w w':=
 F8 (g:=Gc) 60 [Bi x 5 hx,Bi y 5 hy] [dE (Gn 1) rfl,dE (N9 x y hx hy) rfl] F2 Tryz.func112 (by kernel_rfl)
theorem B6j (x y:List UInt64) (hx:x.length=5) (hy:y.length=5) (w:World):Calls Tryz.prog 112 #[J0 x,J0 y] w fun e w'=>e=.returned (J0 (Y0 x y).row)∧Below w.heap.size w w':=by
 simp only[Pn.seg];exact Ox x y hx hy w
theorem Dl (b:List UInt8) (hb:b.length=32) (w:World):Calls Tryz.prog 113 #[A8 b] w fun e w'=>e=.returned (J0 (Q3 b))∧Below w.heap.size w w':=
 F8 (g:=Gc) 60 [Jg b 32 hb] [dEB (B2x b hb) (H8 b)] F2 Tryz.func113 (by kernel_rfl)
theorem D1d (w:World):Calls Tryz.prog 212 #[] w fun e w'=>e=.returned (J0 dee)∧Below w.heap.size w w':=
 F8 (g:=Gc) 60 [] [dE (Dl D4a B3a) (H8 _)] F2 Tryz.func212 (by kernel_rfl)
theorem Td (w:World):Calls Tryz.prog 115 #[] w fun e w'=>e=.returned (J0 U4)∧Below w.heap.size w w':=
 F8 (g:=Gc) 60 [] [dE (Dl B7u A7g) (H8 _)] F2 Tryz.func115 (by kernel_rfl)
theorem Wk (w:World):Calls Tryz.prog 71 #[] w fun e w'=>e=.returned X5.val∧Below w.heap.size w w':=
 F8 (g:=Gc) 60 [] [dE (Dl A0h A7z) (H8 _),dE (Dl A2m A8y) (H8 _),dP (Ox (Q3 A0h) (Q3 A2m) (H8 _) (H8 _)) S4] F2 Tryz.func71 (by kernel_rfl)
theorem D1b (p q:Pn) (hp:p.Ok) (hq:q.Ok) (X Y:Operand) (W:World):(do eqGuard .eql 160 X Y p.val q.val;binOp .eql 160 p.val q.val:Sem Value).run Tryz.prog W=.ok (.bool (p.row==q.row)) W:=by
 rw[←Pn.seg,←Pn.seg];have aA:(eqGuard .eql 160 X Y (J0 p.row) (J0 q.row)).run Tryz.prog W=.ok () W:=run_eqGuard_agg (P:=Tryz.prog) W .eql 160 X Y _ _ (by kernel_rfl);have e1:(binOp .eql 160 (J0 p.row) (J0 q.row)).run Tryz.prog W=.ok (.bool (p.row==q.row)) W:=by
  rw[J0,J0,run_eql_struct];exact congrArg (fun r:Result Bool=>r.andThen fun b w'=>Result.ok (Value.bool b) w') (B7g 9996 W p.row q.row hp.row hq.row)
 simp only[Sem.run_bind,aA,Result.andThen_ok,e1]
def D2t {Φ:Fcts} {S:World→Prop} (p q:Pn) (hp:p.Ok) (hq:q.Ok) {b:Bool} (hb:(p.row==q.row)=b):DC Tryz.prog Φ S:=Tu (op:=.eql) (t:=160) (x:=p.val) (y:=q.val) (v:=.bool b) (by rw[←hb];exact D1b p q hp hq) rfl
theorem Li (p:Pn) (hp:p.Ok) (w:World):Calls Tryz.prog 120 #[p.val] w fun e w'=>e=.returned (P4 p).val∧Below w.heap.size w w':=by
 unfold P4;cases h:p.row==O8 20
 ·exact F8 (g:=Gc) 60 (p.av hp) [D2t p Aj hp Cc h] F2 Tryz.func120 (by kernel_rfl)
 ·exact F8 (g:=Gc) 60 (p.av hp) [D2t p Aj hp Cc h,dE (Gn 0) rfl,dE (Gn 1) rfl,dP (Ox (Ap 0) (Ap 1) rfl rfl) (Bg rfl rfl)] F2 Tryz.func120 (by kernel_rfl)
theorem B5r (p q:Pn) (hp:p.Ok) (hq:q.Ok) (w:World):Calls Tryz.prog 213 #[p.val,q.val] w fun e w'=>e=.returned (B0n p q).val∧Below w.heap.size w w':=
 F8 (g:=Gc) 60 (p.av hp++q.av hq) [dP (Li p hp) (T4 hp),dP (Li q hq) (T4 hq),dE Td P5,dP (Ps (P4 p) (P4 q) U4 (T4 hp) (T4 hq) P5) (Cs _ _ _)] F2 Tryz.func213 (by kernel_rfl)
theorem E8u (p:Pn) (hp:p.Ok) (w:World):Calls Tryz.prog 198 #[p.val] w fun e w'=>e=.returned (A8m p).val∧Below w.heap.size w w':=
 F8 (g:=Gc) 60 (p.av hp) [dP (Li p hp) (T4 hp),dE (Gn 0) rfl,dE (Bj (Ap 0) (P4 p).x rfl (T4 hp).x) rfl,dE (Bj (Ap 0) (P4 p).t rfl (T4 hp).t) rfl] F2 Tryz.func198 (by kernel_rfl)
end
section
def B2e (q:Pn) (i:List UInt64):List UInt8:=if A0o (L6 q.x i) then (N8 (L6 q.y i)).set 31 (g8 (N8 (L6 q.y i)) 31 ||| 128) else N8 (L6 q.y i)
def Fv (p:Pn):List UInt8:=B2e (P4 p) (Xt (P4 p).z)
@[simp, go_sem] theorem X7 (p : Pn) : (Fv p).length = 32 := by unfold Fv B2e; split <;> simp
theorem C1j {p:Pn} (h:A0o (L6 (P4 p).x (Xt (P4 p).z))=true):Fv p=(N8 (L6 (P4 p).y (Xt (P4 p).z))).set 31 (g8 (N8 (L6 (P4 p).y (Xt (P4 p).z))) 31 ||| 128):=by unfold Fv B2e;rw[if_pos h]
theorem C6s {p:Pn} (h:A0o (L6 (P4 p).x (Xt (P4 p).z))=false):Fv p=N8 (L6 (P4 p).y (Xt (P4 p).z)):=by unfold Fv B2e;rw[if_neg (by rw[h];decide)]
set_option maxRecDepth 100000
theorem Ug (p:Pn) (hp:p.Ok) (w:World):Calls Tryz.prog 73 #[p.val] w fun e w'=>e=.returned (A8 (Fv p))∧Below w.heap.size w w':=by
 let q:=P4 p
 have hq:q.Ok:=T4 hp;let i:=Xt q.z
 let l:=N8 (L6 q.y i)
 have hl:l.length=32:=Z3 _;let pre:DL w:=[dP (Li p hp) hq,dE (B7w q.z hq.z) rfl,dE (N9 q.y i hq.y rfl) rfl,D6y (Gk (L6 q.y i) rfl) hl,dE (N9 q.x i hq.x rfl) rfl]
 cases h:A0o (L6 q.x i)
 ·rw[C6s h,Px hl];exact F8 (g:=gB) 60 (p.av hp) (pre++[dB (b:=false) (h▸Jl (L6 q.x i) rfl)]) F2 Tryz.func73 (by kernel_rfl)
 ·rw[C1j h,D5u hl];exact F8 (g:=gB) 60 (p.av hp) (pre++[dB (b:=true) (h▸Jl (L6 q.x i) rfl),dOr (g8 l 31) 128]) F2 Tryz.func73 (by kernel_rfl)
end
section
def Tf (b:List UInt8):List UInt8:=b.set 31 (g8 b 31 &&& 127)
theorem B1f {b:List UInt8} (h:b.length=32):(Tf b).length=32:=by unfold Tf;rw[List.length_set];exact h
def Ts (b:List UInt8):List UInt64:=Q3 (Tf b)
theorem Xb (b:List UInt8):(Ts b).length=5:=H8 _
def A1b (b:List UInt8):List UInt64:=Fm (L6 (Ts b) (Ts b)) (Ap 1)
def A0x (b:List UInt8):List UInt64:=Ex (L6 (L6 (Ts b) (Ts b)) dee) (Ap 1)
def Vm (b:List UInt8):List UInt64:=Qf (A1b b) (A0x b)
def Jb (b:List UInt8):Bool:=g8 b 31 >>> 7==1
def Dn (b:List UInt8):Bool:=Ls (Tf b)&&(Cx (A1b b) (A0x b) && !(Jb b&&N8 (Vm b)==z8 32))
def De (b:List UInt8):Pn:=if Dn b then Y0 (if Jb b then Fm (Ap 0) (Vm b) else Vm b) (Ts b) else Aj
def Ot (b:List UInt8):Int:=if Dn b then 0 else 50
theorem Tv (b:List UInt8):(De b).Ok:=by
 unfold De;split
 ·refine Bg ?_ (Xb b);split
  ·rfl
  ·exact Uf _ _
 ·exact Cc
theorem Yr {b:List UInt8} (h:Dn b=false):De b=Aj∧Ot b=50:=by unfold De Ot;rw[if_neg (by rw[h];decide),if_neg (by rw[h];decide)];exact ⟨rfl,rfl⟩
theorem B0u {b:List UInt8} (h:Ls (Tf b)=false):De b=Aj∧Ot b=50:=Yr (by unfold Dn;rw[h];rfl)
theorem B1r {b:List UInt8} (h:Cx (A1b b) (A0x b)=false):De b=Aj∧Ot b=50:=Yr (by unfold Dn;rw[h];simp)
theorem C8h {b:List UInt8} (h:Jb b=true) (h2:(N8 (Vm b)==z8 32)=true):De b=Aj∧Ot b=50:=Yr (by unfold Dn;rw[h,h2];simp)
theorem C4d {b:List UInt8} (h0:Ls (Tf b)=true) (h1:Cx (A1b b) (A0x b)=true) (h:Jb b=false):De b=Y0 (Vm b) (Ts b)∧Ot b=0:=by
 have e:Dn b=true:=by unfold Dn;rw[h0,h1,h];rfl
 unfold De Ot;rw[if_pos e,if_pos e,if_neg (by rw[h];decide)];exact ⟨rfl,rfl⟩
theorem D3f {b:List UInt8} (h0:Ls (Tf b)=true) (h1:Cx (A1b b) (A0x b)=true) (h:Jb b=true) (h2:(N8 (Vm b)==z8 32)=false):De b=Y0 (Fm (Ap 0) (Vm b)) (Ts b)∧Ot b=0:=by
 have e:Dn b=true:=by unfold Dn;rw[h0,h1,h,h2];rfl
 unfold De Ot;rw[if_pos e,if_pos e,if_pos h];exact ⟨rfl,rfl⟩
set_option maxRecDepth 100000
theorem D5w {b:List UInt8} (hb:b.length=32):A8 (Tf b)=b31 b (g8 b 31 &&& 127):=D5u hb _
theorem B7k (b:List UInt8) (hb:b.length=32) (w:World):Calls Tryz.prog 194 #[A8 b] w fun e w'=>e=.returned (.tuple #[J0 (De b).row,.int .i64 (Ot b)])∧Below w.heap.size w w':=by
 rw[Pn.seg,Px hb];let y:=Ts b
 have hy:y.length=5:=Xb b;let ρ:=[Jg (b.take 31) 31 (by simp[hb]),Jg [g8 b 31] 1 rfl]
 have aB:∀W,Calls Tryz.prog 167 #[b31 b (g8 b 31 &&& 127)] W fun e W'=>e=.returned (.tuple #[J0 y,.bool (Ls (Tf b))])∧Below W.heap.size W W':=by rw[←D5w hb];exact B2x (Tf b) (B1f hb)
 have aA:=C2g (A1b b) (A0x b) rfl rfl;let mid:DL w:=[dE (N9 y y hy hy) rfl,dE (Gn 1) rfl,dE (Bj (L6 y y) (Ap 1) rfl rfl) rfl,dE D1d A0s,dE (N9 (L6 y y) dee rfl A0s) rfl,dE (Cv (L6 (L6 y y) dee) (Ap 1) rfl rfl) rfl]
 let x:=Vm b
 have hx:x.length=5:=Uf _ _;cases ho:Jb b
 ·let pre:DL w:=[D7m (g8 b 31) .u64 7 (by decide),D3y (g8 b 31 >>> 7) 1 ho,C0q (g8 b 31) 127]
  cases h0:Ls (Tf b)
  ·obtain⟨e1,e2⟩:=B0u h0;rw[e1,e2];exact F8 (g:=gB) 60 ρ (pre++[dEB (b:=false) (h0▸aB) hy]) F2 Tryz.func194 (by kernel_rfl)
  ·cases h1:Cx (A1b b) (A0x b)
   ·obtain⟨e1,e2⟩:=B1r h1;rw[e1,e2];exact F8 (g:=gB) 60 ρ (pre++(dEB (b:=true) (h0▸aB) hy::(mid++[dEB (b:=false) (h1▸aA) hx]))) F2 Tryz.func194 (by kernel_rfl)
   ·obtain⟨e1,e2⟩:=C4d h0 h1 ho;rw[e1,e2];exact F8 (g:=gB) 60 ρ (pre++(dEB (b:=true) (h0▸aB) hy::(mid++[dEB (b:=true) (h1▸aA) hx,dP (Ox x y hx hy) (Bg hx hy)]))) F2 Tryz.func194 (by kernel_rfl)
 ·let pre:DL w:=[D7m (g8 b 31) .u64 7 (by decide),D3y (g8 b 31 >>> 7) 1 ho,C0q (g8 b 31) 127]
  cases h0:Ls (Tf b)
  ·obtain⟨e1,e2⟩:=B0u h0;rw[e1,e2];exact F8 (g:=gB) 60 ρ (pre++[dEB (b:=false) (h0▸aB) hy]) F2 Tryz.func194 (by kernel_rfl)
  ·cases h1:Cx (A1b b) (A0x b)
   ·obtain⟨e1,e2⟩:=B1r h1;rw[e1,e2];exact F8 (g:=gB) 60 ρ (pre++(dEB (b:=true) (h0▸aB) hy::(mid++[dEB (b:=false) (h1▸aA) hx]))) F2 Tryz.func194 (by kernel_rfl)
   ·cases h2:N8 x==z8 32
    ·obtain⟨e1,e2⟩:=D3f h0 h1 ho h2;rw[e1,e2];exact F8 (g:=gB) 60 ρ (pre++(dEB (b:=true) (h0▸aB) hy::(mid++[dEB (b:=true) (h1▸aA) hx,D6y (Gk x hx) (Z3 _),D4q (N8 x) (z8 32) (Z3 _) rfl h2,dE (Gn 0) rfl,dE (Bj (Ap 0) x rfl hx) rfl,dP (Ox (Fm (Ap 0) x) y rfl hy) (Bg rfl hy)]))) F2 Tryz.func194 (by kernel_rfl)
    ·obtain⟨e1,e2⟩:=C8h ho h2;rw[e1,e2];exact F8 (g:=gB) 60 ρ (pre++(dEB (b:=true) (h0▸aB) hy::(mid++[dEB (b:=true) (h1▸aA) hx,D6y (Gk x hx) (Z3 _),D4q (N8 x) (z8 32) (Z3 _) rfl h2]))) F2 Tryz.func194 (by kernel_rfl)
end
section
def Pl (ps:List Pn):List UInt64:=(ps.map Pn.row).flatten
def Ek (ps:List Pn):Prop:=∀p∈ps,p.Ok
theorem Y3:∀ {ps:List Pn},Ek ps→(Pl ps).length=ps.length*20
 | [],_=>rfl
 | p::ps,h=>by
  have h1:=Y3 (ps:=ps) fun q hq=>h q (by simp[hq]);have h2:=(h p (by simp)).row;show (p.row++Pl ps).length=_;rw[List.length_append,h1,h2,List.length_cons];omega
theorem C6j:∀ {ps:List Pn} (i:Nat),Ek ps→i<ps.length→((Pl ps).drop (i*20)).take 20=(ps.getD i Aj).row
 | p::ps,0,h,_=>by
  have h2:=(h p (by simp)).row;show (p.row++Pl ps).take 20=p.row;rw[List.take_append_of_le_length (by omega),List.take_of_length_le (by omega)]
 | p::ps,i+1,h,hi=>by
  have h2:=(h p (by simp)).row;have h1:=C6j (ps:=ps) i (fun q hq=>h q (by simp[hq])) (by simpa using hi);show ((p.row++Pl ps).drop ((i+1)*20)).take 20=_;rw[show (i+1)*20=p.row.length+i*20 by omega,List.drop_append,List.drop_eq_nil_of_le (by omega),List.nil_append,Nat.add_sub_cancel_left,h1];rfl
theorem C7t:∀ {ps:List Pn} (i:Nat) {q:Pn},Ek ps→q.Ok→i<ps.length→(Pl ps).take (i*20)++q.row++(Pl ps).drop (i*20+20)=Pl (ps.set i q)
 | p::ps,0,q,h,hq,_=>by
  have h2:=(h p (by simp)).row;show (p.row++Pl ps).take 0++q.row++(p.row++Pl ps).drop (0+20)=q.row++Pl ps;rw[show 0+20=p.row.length+0 by omega,List.drop_append];simp
 | p::ps,i+1,q,h,hq,hi=>by
  have h2:=(h p (by simp)).row;have h1:=C7t (ps:=ps) i (fun q hq=>h q (by simp[hq])) hq (by simpa using hi);show (p.row++Pl ps).take ((i+1)*20)++q.row++(p.row++Pl ps).drop ((i+1)*20+20)=p.row++Pl (ps.set i q);rw[←h1,show (i+1)*20+20=p.row.length+(i*20+20) by omega,List.drop_append,List.drop_eq_nil_of_le (by omega),List.nil_append,Nat.add_sub_cancel_left,show (i+1)*20=p.row.length+i*20 by omega,List.take_append,List.take_of_length_le (by omega),Nat.add_sub_cancel_left];simp
theorem Ek.getD {ps:List Pn} (h:Ek ps) (i:Nat):(ps.getD i Aj).Ok:=by
 by_cases hi:i<ps.length
 ·rw[List.getD_eq_getElem?_getD,List.getElem?_eq_getElem hi];exact h _ (List.getElem_mem hi)
 ·rw[List.getD_eq_getElem?_getD,List.getElem?_eq_none (by omega)];exact Cc
def Eb (ps:List Pn) (i:Nat):Pn:=ps.getD i Aj
theorem Ek.at {ps:List Pn} (h:Ek ps) (i:Nat):(Eb ps i).Ok:=h.getD i
section
variable {w : World} {g : Nat} {t : TypeId} {ps : List Pn}
theorem Bk.plAt (K:Bk w g t (E6 (Pl ps))) (h:Ek ps) {i:Nat} (hi:i<ps.length):C6 w ⟨g,i*20,none⟩ 20=some (E6 (Eb ps i).row):=by
 show _=some (E6 (ps.getD i Aj).row);have hl:=Y3 h;rw[K.rowMid (i*20) 20 (by simp[hl];omega),←C6j i h hi];simp[E6]
theorem Bk.plCan (K:Bk w g t (E6 (Pl ps))) (h:Ek ps) {i:Nat} (hi:i<ps.length):E4 w ⟨g,i*20,none⟩ 20=true:=by
 have hl:=Y3 h;exact K.can (by simp[hl];omega)
theorem Bk.plPut (K:Bk w g t (E6 (Pl ps))) (h:Ek ps) {i:Nat} (hi:i<ps.length) {q:Pn} (hq:q.Ok):Bk (C5 w ⟨g,i*20,none⟩ (E6 q.row)) g t (E6 (Pl (ps.set i q))):=by
 have hl:=Y3 h;have h1:=K.put (o:=i*20) (vs:=E6 q.row) (by simp[hl,hq.row];omega);rw[←C7t i h hq hi];simpa [E6,hq.row] using h1
end
def Ej (f:Nat→Pn) (n m:Nat):List Pn:=(List.range n).map fun i=>if i<m then f i else Aj
@[simp] theorem B3j (f : Nat → Pn) (n m : Nat) : (Ej f n m).length = n := by simp [Ej]
theorem Ij {f:Nat→Pn} (hf:∀i,(f i).Ok) (n m:Nat):Ek (Ej f n m):=fun p hp=>by
 obtain⟨i,_,rfl⟩:=List.mem_map.1 hp;split
 ·exact hf i
 ·exact Cc
theorem C9l {f:Nat→Pn} {n m i:Nat} (hi:i<n):(Ej f n m).getD i Aj=if i<m then f i else Aj:=by
 rw[List.getD_eq_getElem?_getD];simp[Ej,hi]
theorem B9t {f:Nat→Pn} {n m i:Nat} (hi:i<n):Eb (Ej f n m) i=if i<m then f i else Aj:=C9l hi
theorem C9x {f:Nat→Pn} {n m:Nat} (hm:m<n) {q:Pn} (hq:q=f m):(Ej f n m).set m q=Ej f n (m+1):=by
 subst hq;apply List.ext_getElem
 ·simp
 ·intro i h1 h2;simp only[Ej,List.getElem_set,List.getElem_map,List.getElem_range];by_cases e:m=i
  ·subst e;simp
  ·rw[if_neg e];by_cases h:i<m
   ·rw[if_pos h,if_pos (by omega)]
   ·rw[if_neg h,if_neg (by omega)]
theorem D6l (f:Nat→Pn):Pl (Ej f 32 0)=O8 640:=by kernel_rfl
def Tg (n:List UInt8) (i:Nat):UInt8:=g8 n (i / 2) >>> UInt8.ofNat (4*(i % 2)) &&& 15
theorem B4q (n:List UInt8) (i:Nat):(Tg n i).toNat<16:=by
 unfold Tg;rw[UInt8.toNat_and];exact Nat.lt_of_le_of_lt Nat.and_le_right (by decide)
theorem C3u (n:List UInt8) (hn:n.length=32) (i:Nat) (hi:i<64) (w:World):Calls Tryz.prog 119 #[A8 n,.int .i64 (i:Int)] w fun e w'=>e=.returned (.int .u8 (n8 (Tg n i)))∧Below w.heap.size w w':=by
 have aB:(i:Int) / 2=((i / 2:Nat):Int):=by omega
 have aC:(i:Int) % 2=((i % 2:Nat):Int):=by omega
 have aD:i / 2<32:=by omega
 have h2:i % 2<2:=by omega
 have k0:=(Bk.new w 35 (c8 n)).at_ (Lu (l:=n) (i:=i / 2) (by omega));obtain⟨D,hD⟩:∃d,d=Tg n i:=⟨_,rfl⟩;have aA:D=g8 n (i / 2) >>> UInt8.ofNat (4*(i % 2)) &&& 15:=hD;have HD:=Lib.hid hD;rw[←hD];have HE:=Lib.hid aA;clear hD aA;have hB:Below w.heap.size w (w.alloc (Obj.cells (c8 n).toArray 35)):=(Below.refl _ _).alloc (Nat.le_refl _) _;generalize i / 2=q at *;generalize i % 2=r at *;obtain⟨s,hs⟩:∃s,s=4*r:=⟨_,rfl⟩;have h4:4*(r:Int)=(s:Int):=by omega
 have aE:s<8:=by omega
 have HS:=Lib.hid hs;clear hs;go_enter Tryz.func119,Tryz.ntmps119;go_wp2_with fail;go_ret;exact ⟨by rw[HE.out,HS.out];rfl,hB⟩
end
section
def dg (n:List UInt8) (i:Nat):Nat:=(Tg n i).toNat
theorem B1z (n:List UInt8) (i:Nat):dg n i<16:=B4q n i
theorem Rs (n:List UInt8) (hn:n.length=32) (i:Nat) (hi:i<64) (w:World):Calls Tryz.prog 119 #[A8 n,.int .i64 (i:Int)] w fun e w'=>e=.returned (.int .u8 ((dg n i:Nat):Int))∧Below w.heap.size w w':=C3u n hn i hi w
def B4p (p:Pn) (k:List UInt64):Nat→Pn
 | 0=>P4 Aj
 | 1=>P4 p
 | i+2=>Fz (B4p p k (i+1)) (P4 p) k
theorem A7c {p:Pn} (hp:p.Ok) (k:List UInt64):∀i,(B4p p k i).Ok
 | 0=>T4 Cc
 | 1=>T4 hp
 | i+2=>Cs _ _ _
def Ay (p:Pn) (k:List UInt64):List Pn:=Ej (B4p p k) 16 16
theorem Np {p:Pn} (hp:p.Ok) (k:List UInt64):Ek (Ay p k):=Ij (A7c hp k) 16 16
@[simp, go_sem] theorem Ks (p : Pn) (k : List UInt64) : (Ay p k).length = 16 := B3j _ _ _
theorem Uw {p:Pn} {k:List UInt64} {i:Nat} (hi:i<16):Eb (Ay p k) i=B4p p k i:=by
 unfold Ay;rw[B9t hi,if_pos hi]
def plC:List Pn→List Value
 | []=>[]
 | [q]=>E6 q.x++(E6 q.y++(E6 q.z++E6 q.t))
 | q::l=>E6 q.x++(E6 q.y++(E6 q.z++(E6 q.t++plC l)))
theorem C7s:∀l:List Pn,E6 (Pl l)=plC l
 | []=>rfl
 | [q]=>by simp[plC,Pl,Pn.row,ptl,E6]
 | q::r::l=>by
  have ih:=C7s (r::l);have h:E6 (Pl (q::r::l))=E6 q.row++E6 (Pl (r::l)):=by simp[Pl,E6]
  rw[h,ih];simp[plC,Pn.row,ptl,E6]
set_option maxRecDepth 100000
theorem D0h (p:Pn) (k:List UInt64) (hp:p.Ok) (hk:k.length=5) (w:World):Calls Tryz.prog 116 #[J0 p.row,J0 k] w fun e w'=>e=.returned (J0 (Pl (Ay p k)))∧Below w.heap.size w w':=by
 rw[Pn.seg,show J0 (Pl (Ay p k))=.agg (plC (Ay p k)).toArray by rw[J0,C7s]];exact F8 (g:=Gc) 100 (p.av hp++[Bi k 5 hk]) ([dP (Li Aj Cc) (T4 Cc),dP (Li p hp) (T4 hp)]++(List.range 14).map fun i=>dP (Ps (B4p p k (i+1)) (P4 p) k (A7c hp k _) (T4 hp) hk) (A7c hp k (i+2))) F2 Tryz.func116 (by kernel_rfl)
end
end Go.Proofs.YtdfpoofbgjilgaaGreat
