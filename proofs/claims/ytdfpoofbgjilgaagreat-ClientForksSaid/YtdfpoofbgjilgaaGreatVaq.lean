/- A part of the proof of ClientForks. -/
import Derived.Test.YtdfpoofbgjilgaaGreatVap
set_option linter.unusedVariables false
set_option linter.unusedSimpArgs false
set_option maxRecDepth 100000
set_option maxHeartbeats 40000000
namespace Go.Proofs.YtdfpoofbgjilgaaGreat
open Go Go.RowKit Sh
section
def Fy:Cfg:=⟨fun t=>if t=160 then some [5,5,5,5] else none,fun _=>none,noF⟩
def Pn.val (p:Pn):Value:=.agg (E4 p.x++(E4 p.y++(E4 p.z++E4 p.t))).toArray
theorem Pn.seg (p:Pn):F8 p.row=p.val:=by
 unfold F8 Pn.val Pn.row ptl E4;simp
def Pn.av (p:Pn) (h:p.Ok):List Av:=[Bj p.x 5 h.x,Bj p.y 5 h.y,Bj p.z 5 h.z,Bj p.t 5 h.t]
section
variable {f : FuncId} {args : Array Value} {Φ : Fcts} {S : World → Prop}
def dP {p:Pn} (h:∀W,Calls Tryz.prog f args W fun e W'=>e=.returned p.val∧Below W.heap.size W W') (hp:p.Ok):DC Tryz.prog Φ S:=⟨.call f (fun _=>args) (fun _=>p.val) none (fun _ _=>True),fun _ W _ _=>h W,p.av hp⟩
end
def b31 (l:List UInt8) (x:UInt8):Value:=.agg (c8 (l.take 31)++c8 [x]).toArray
theorem Pi {l:List UInt8} (hl:l.length=32):A8 l=b31 l (Sh.g8 l 31):=by
 have h1:l=l.take 31++[Sh.g8 l 31]:=by
  conv=>lhs;rw[←List.take_append_drop 31 l]
  congr 1;rw[List.drop_eq_getElem_cons (by omega),List.drop_eq_nil_of_le (by omega)];simp[Sh.g8,List.getD_eq_getElem?_getD,hl]
 unfold A8 b31;conv=>lhs;rw[h1]
 simp[c8]
theorem D7f {l:List UInt8} (hl:l.length=32) (x:UInt8):A8 (l.set 31 x)=b31 l x:=by
 rw[Pi (by simpa using hl)];unfold b31;rw[List.take_set_of_le (by omega)];simp[Sh.g8,List.getD_eq_getElem?_getD,hl]
def D9w {Φ:Fcts} {S:World→Prop} {f:FuncId} {args:Array Value} {l:List UInt8} (h:∀W,Calls Tryz.prog f args W fun e W'=>e=.returned (A8 l)∧Below W.heap.size W W') (hl:l.length=32):DC Tryz.prog Φ S:=
 ⟨.call f (fun _=>args) (fun _=>b31 l (Sh.g8 l 31)) none (fun _ _=>True),fun _ W _ _=>by rw[←Pi hl];exact h W,[Je (l.take 31) 31 (by simp[hl]),Je [Sh.g8 l 31] 1 rfl]⟩
def D8m {Φ:Fcts} {S:World→Prop} (l m:List UInt8) (hl:l.length=32) (hm:m.length=32) {b:Bool} (hb:(l==m)=b):DC Tryz.prog Φ S:=Sj (op:=.eql) (t:=35) (x:=b31 l (Sh.g8 l 31)) (y:=b31 m (Sh.g8 m 31)) (v:=.bool b) (by rw[←hb,←Pi hl,←Pi hm];exact B9p l m hl hm) rfl
def gB:Cfg:=⟨fun t=>if t=35 then some [31,1] else Fy.cut t,fun _=>none,noF⟩
end
section
set_option maxRecDepth 100000
theorem A9u (a:List UInt64) (ha:a.length=5) (w:World):Calls Tryz.prog 171 #[F8 a] w fun e w'=>e=.returned (.tuple #[F8 (Qe a),F8 (Fx a)])∧Below w.heap.size w w':=by
 let sq:=fun (n:Nat) (hn:n≤1000000) (x:List UInt64) (hx:x.length=5)=>(dE (Mw x hx n hn) (Wx hx n):DC1 w)
 let mul:=fun (x y:List UInt64) (hx:x.length=5) (hy:y.length=5)=>(dE (M8 x y hx hy) rfl:DC1 w)
 let u:=J5 (Dl 20 (f20 a)) (f20 a)
 let v:=J5 (Dl 100 (A2x a)) (A2x a)
 exact H7 (g:=Fy) 60 [Bj a 5 ha]
  [dE (Yo a ha) rfl,sq 2 (by decide) (fsq a) rfl,mul (Dl 2 (fsq a)) a rfl ha,mul (A2j a) (fsq a) rfl rfl,dE (Yo (Fx a) rfl) rfl,mul (fsq (Fx a)) (A2j a) rfl rfl,
   sq 5 (by decide) (f5 a) rfl,mul (Dl 5 (f5 a)) (f5 a) rfl rfl,sq 10 (by decide) (f10 a) rfl,mul (Dl 10 (f10 a)) (f10 a) rfl rfl,sq 20 (by decide) (f20 a) rfl,mul (Dl 20 (f20 a)) (f20 a) rfl rfl,
   sq 10 (by decide) u rfl,mul (Dl 10 u) (f10 a) rfl rfl,sq 50 (by decide) (f50 a) rfl,mul (Dl 50 (f50 a)) (f50 a) rfl rfl,sq 100 (by decide) (A2x a) rfl,mul (Dl 100 (A2x a)) (A2x a) rfl rfl,sq 50 (by decide) v rfl,mul (Dl 50 v) (f50 a) rfl rfl]
  F9 Tryz.func171 (by kernel_rfl)
theorem C0b (a:List UInt64) (ha:a.length=5) (w:World):Calls Tryz.prog 121 #[F8 a] w fun e w'=>e=.returned (F8 (Vk a))∧Below w.heap.size w w':=
 H7 (g:=Fy) 60 [Bj a 5 ha] [dEE (A9u a ha) rfl rfl,dE (Mw (Qe a) rfl 5 (by decide)) rfl,dE (M8 (Dl 5 (Qe a)) (Fx a) rfl rfl) rfl] F9 Tryz.func121 (by kernel_rfl)
end
section
def Wl (u v:List UInt64):List UInt64:=J5 u (Vk v)
def Qk (u v:List UInt64):List UInt64:=J5 (Dl 2 (Qe (Wl u v))) (fsq (Wl u v))
def A7k (x w:List UInt64):Bool:=M7 (J5 x x)==M7 w
def Hj (u v:List UInt64):List UInt64:=if A7k (Qk u v) (Wl u v) then Qk u v else J5 (Qk u v) Jk
def B6f (x:List UInt64):List UInt64:=if A1u x then Es (J7 5) x else x
def Cm (u v:List UInt64):Bool:=!(M7 v==z8 32)&&A7k (Hj u v) (Wl u v)
def Qj (u v:List UInt64):List UInt64:=if Cm u v then B6f (Hj u v) else J7 5
@[simp, go_sem] theorem D6m (u v : List UInt64) : (Wl u v).length = 5 := rfl
@[simp, go_sem] theorem D2k (u v : List UInt64) : (Qk u v).length = 5 := rfl
theorem A3c (u v:List UInt64):(Hj u v).length=5:=by unfold Hj;split<;>rfl
theorem Td (u v:List UInt64):(Qj u v).length=5:=by
 unfold Qj B6f;split
 ·split
  ·rfl
  ·exact A3c u v
 ·rfl
theorem B8d {u v:List UInt64} (h:Cm u v=false):Qj u v=J7 5:=by unfold Qj;rw[if_neg (by rw[h];decide)]
theorem B0f {u v:List UInt64} (h:Cm u v=true):Qj u v=B6f (Hj u v):=by unfold Qj;rw[if_pos h]
set_option maxRecDepth 100000
theorem C3h (u v:List UInt64) (hu:u.length=5) (hv:v.length=5) (w:World):Calls Tryz.prog 211 #[F8 u,F8 v] w fun e w'=>e=.returned (.tuple #[F8 (Qj u v),.bool (Cm u v)])∧Below w.heap.size w w':=by
 have hh:∀x,(M7 x).length=32:=Z1;let hash:=fun (x:List UInt64) (hx:x.length=5)=>(dH (Gl x hx) (hh x):DC1 w)
 let mul:=fun (x y:List UInt64) (hx:x.length=5) (hy:y.length=5)=>(dE (M8 x y hx hy) rfl:DC1 w)
 let W:=Wl u v
 let X:=Qk u v
 cases h1:M7 v==z8 32
 ·let pre:DL w:=[hash v hv,dEq (M7 v) (z8 32) (hh v) rfl h1,dE (C0b v hv) rfl,mul u (Vk v) hu rfl,dEE (A9u W rfl) rfl rfl,dE (Mw (Qe W) rfl 2 (by decide)) rfl,dE (Yo W rfl) rfl,mul (Dl 2 (Qe W)) (fsq W) rfl rfl,mul X X rfl rfl,hash (J5 X X) rfl,hash W rfl]
  cases h2:M7 (J5 X X)==M7 W
  ·let Y:=J5 X Jk
   have e2:Hj u v=Y:=by unfold Hj A7k;rw[h2];rfl
   let mid:DL w:=[dNe (M7 (J5 X X)) (M7 W) (hh _) (hh _) h2,dE A6m rfl,mul X Jk rfl rfl,mul Y Y rfl rfl,hash (J5 Y Y) rfl,hash W rfl]
   cases h3:M7 (J5 Y Y)==M7 W
   ·have hB:Cm u v=false:=by unfold Cm A7k;rw[e2,h1,h3];rfl
    rw[B8d hB,hB];exact H7 (g:=Fy) 60 [Bj u 5 hu,Bj v 5 hv] (pre++(mid++[dNe (M7 (J5 Y Y)) (M7 W) (hh _) (hh _) h3])) F9 Tryz.func211 (by kernel_rfl)
   ·have hB:Cm u v=true:=by unfold Cm A7k;rw[e2,h1,h3];rfl
    rw[B0f hB,hB,e2];unfold B6f;cases h4:A1u Y
    ·exact H7 (g:=Fy) 60 [Bj u 5 hu,Bj v 5 hv] (pre++(mid++[dNe (M7 (J5 Y Y)) (M7 W) (hh _) (hh _) h3,dB (b:=false) (h4▸Ji Y rfl)])) F9 Tryz.func211 (by kernel_rfl)
    ·exact H7 (g:=Fy) 60 [Bj u 5 hu,Bj v 5 hv] (pre++(mid++[dNe (M7 (J5 Y Y)) (M7 W) (hh _) (hh _) h3,dB (b:=true) (h4▸Ji Y rfl),dE (Bi (J7 5) Y rfl rfl) rfl])) F9 Tryz.func211 (by kernel_rfl)
  ·have e2:Hj u v=X:=by unfold Hj A7k;rw[h2];rfl
   let mid:DL w:=[dNe (M7 (J5 X X)) (M7 W) (hh _) (hh _) h2,mul X X rfl rfl,hash (J5 X X) rfl,hash W rfl,dNe (M7 (J5 X X)) (M7 W) (hh _) (hh _) h2]
   have hB:Cm u v=true:=by unfold Cm A7k;rw[e2,h1,h2];rfl
   rw[B0f hB,hB,e2];unfold B6f;cases h4:A1u X
   ·exact H7 (g:=Fy) 60 [Bj u 5 hu,Bj v 5 hv] (pre++(mid++[dB (b:=false) (h4▸Ji X rfl)])) F9 Tryz.func211 (by kernel_rfl)
   ·exact H7 (g:=Fy) 60 [Bj u 5 hu,Bj v 5 hv] (pre++(mid++[dB (b:=true) (h4▸Ji X rfl),dE (Bi (J7 5) X rfl rfl) rfl])) F9 Tryz.func211 (by kernel_rfl)
 ·have hB:Cm u v=false:=by unfold Cm;rw[h1];rfl
  rw[B8d hB,hB];exact H7 (g:=Fy) 60 [Bj u 5 hu,Bj v 5 hv] [hash v hv,dEq (M7 v) (z8 32) (hh v) rfl h1] F9 Tryz.func211 (by kernel_rfl)
end
section
def Fv (p q:Pn) (k:List UInt64):Pn:=
 let a:=J5 (Es p.y p.x) (Es q.y q.x)
 let b:=J5 (Ed p.y p.x) (Ed q.y q.x)
 let c:=J5 (J5 p.t k) q.t
 let d:=J5 p.z q.z
 let d2:=Ed d d
 let e:=Es b a
 let f:=Es d2 c
 let g:=Ed d2 c
 let h:=Ed b a
 ⟨J5 e f,J5 g h,J5 f g,J5 e h⟩
theorem Cs (p q:Pn) (k:List UInt64):(Fv p q k).Ok:=⟨rfl,rfl,rfl,rfl⟩
set_option maxRecDepth 100000
theorem Pu (p q:Pn) (k:List UInt64) (hp:p.Ok) (hq:q.Ok) (hk:k.length=5) (w:World):Calls Tryz.prog 118 #[p.val,q.val,F8 k] w fun e w'=>e=.returned (Fv p q k).val∧Below w.heap.size w w':=by
 let a:=J5 (Es p.y p.x) (Es q.y q.x)
 let b:=J5 (Ed p.y p.x) (Ed q.y q.x)
 let c:=J5 (J5 p.t k) q.t
 let d:=Ed (J5 p.z q.z) (J5 p.z q.z)
 exact H7 (g:=Fy) 60 (p.av hp++(q.av hq++[Bj k 5 hk]))
  [dE (Bi p.y p.x hp.y hp.x) rfl,dE (Bi q.y q.x hq.y hq.x) rfl,dE (M8 (Es p.y p.x) (Es q.y q.x) rfl rfl) rfl,
   dE (Cl p.y p.x hp.y hp.x) rfl,dE (Cl q.y q.x hq.y hq.x) rfl,dE (M8 (Ed p.y p.x) (Ed q.y q.x) rfl rfl) rfl,
   dE (M8 p.t k hp.t hk) rfl,dE (M8 (J5 p.t k) q.t rfl hq.t) rfl,
   dE (M8 p.z q.z hp.z hq.z) rfl,dE (Cl (J5 p.z q.z) (J5 p.z q.z) rfl rfl) rfl,
   dE (Bi b a rfl rfl) rfl,dE (Bi d c rfl rfl) rfl,dE (Cl d c rfl rfl) rfl,dE (Cl b a rfl rfl) rfl,
   dE (M8 (Es b a) (Es d c) rfl rfl) rfl,dE (M8 (Ed d c) (Ed b a) rfl rfl) rfl,dE (M8 (Es d c) (Ed d c) rfl rfl) rfl,dE (M8 (Es b a) (Ed b a) rfl rfl) rfl]
  F9 Tryz.func118 (by kernel_rfl)
end
section
def Ob (p:Pn):Pn:=
 let a:=J5 p.x p.x
 let b:=J5 p.y p.y
 let c:=J5 p.z p.z
 let h:=Ed a b
 let s:=Ed p.x p.y
 let e:=Es h (J5 s s)
 let g:=Es a b
 let f:=Ed (Ed c c) g
 ⟨J5 e f,J5 g h,J5 f g,J5 e h⟩
theorem Yf (p:Pn):(Ob p).Ok:=⟨rfl,rfl,rfl,rfl⟩
set_option maxRecDepth 100000
theorem Ve (p:Pn) (hp:p.Ok) (w:World):Calls Tryz.prog 117 #[p.val] w fun e w'=>e=.returned (Ob p).val∧Below w.heap.size w w':=by
 let a:=J5 p.x p.x
 let b:=J5 p.y p.y
 let c:=J5 p.z p.z
 let h:=Ed a b
 let s:=Ed p.x p.y
 let e:=Es h (J5 s s)
 let g:=Es a b
 let f:=Ed (Ed c c) g
 exact H7 (g:=Fy) 60 (p.av hp)
  [dE (M8 p.x p.x hp.x hp.x) rfl,dE (M8 p.y p.y hp.y hp.y) rfl,dE (M8 p.z p.z hp.z hp.z) rfl,dE (Cl a b rfl rfl) rfl,dE (Cl p.x p.y hp.x hp.y) rfl,
   dE (M8 s s rfl rfl) rfl,dE (Bi h (J5 s s) rfl rfl) rfl,dE (Bi a b rfl rfl) rfl,dE (Cl c c rfl rfl) rfl,dE (Cl (Ed c c) g rfl rfl) rfl,
   dE (M8 e f rfl rfl) rfl,dE (M8 g h rfl rfl) rfl,dE (M8 f g rfl rfl) rfl,dE (M8 e h rfl rfl) rfl]
  F9 Tryz.func117 (by kernel_rfl)
end
section
def D4h:List UInt8:=[163,120,89,19,202,77,235,117,171,216,65,65,77,10,112,0,152,232,121,119,121,64,199,140,115,254,111,43,238,108,3,82]
@[simp, go_sem] theorem B0h : D4h.length = 32 := rfl
attribute [irreducible] D4h
def C0l:List UInt8:=[89,241,178,38,148,155,214,235,86,177,131,130,154,20,224,0,48,209,243,238,242,128,142,25,231,252,223,86,220,217,6,36]
@[simp, go_sem] theorem A7i : C0l.length = 32 := rfl
attribute [irreducible] C0l
def A0d:List UInt8:=[26,213,37,143,96,45,86,201,178,167,37,149,96,199,44,105,92,220,214,253,49,226,164,192,254,83,110,205,211,54,105,33]
@[simp, go_sem] theorem A7u : A0d.length = 32 := rfl
attribute [irreducible] A0d
def A2c:List UInt8:=[88,102,102,102,102,102,102,102,102,102,102,102,102,102,102,102,102,102,102,102,102,102,102,102,102,102,102,102,102,102,102,102]
@[simp, go_sem] theorem A8d : A2c.length = 32 := rfl
attribute [irreducible] A2c
def Af:Pn:=⟨J7 5,J7 5,J7 5,J7 5⟩
theorem Bw:Af.Ok:=⟨by simp[Af],by simp[Af],by simp[Af],by simp[Af]⟩
def V8 (x y:List UInt64):Pn:=⟨x,y,Z9 1,J5 x y⟩
theorem Bh {x y:List UInt64} (hx:x.length=5) (hy:y.length=5):(V8 x y).Ok:=⟨hx,hy,rfl,rfl⟩
def dee:List UInt64:=P5 D4h
def T3:List UInt64:=P5 C0l
@[simp, go_sem] theorem Zf : dee.length = 5 := I4 _
@[simp, go_sem] theorem O5 : T3.length = 5 := I4 _
def N8 (p:Pn):Pn:=if p.row==J7 20 then V8 (Z9 0) (Z9 1) else p
theorem Q4 {p:Pn} (hp:p.Ok):(N8 p).Ok:=by
 unfold N8;split
 ·exact Bh rfl rfl
 ·exact hp
def U6:Pn:=V8 (P5 A0d) (P5 A2c)
theorem Q2:U6.Ok:=Bh (I4 _) (I4 _)
def B1n (p q:Pn):Pn:=Fv (N8 p) (N8 q) T3
def A6h (p:Pn):Pn:=⟨Es (Z9 0) (N8 p).x,(N8 p).y,(N8 p).z,Es (Z9 0) (N8 p).t⟩
theorem Kf (p q:Pn):(B1n p q).Ok:=Cs _ _ _
theorem B9v {p:Pn} (hp:p.Ok):(A6h p).Ok:=⟨rfl,(Q4 hp).y,(Q4 hp).z,rfl⟩
set_option maxRecDepth 100000
theorem Oq (x y:List UInt64) (hx:x.length=5) (hy:y.length=5) (w:World):Calls Tryz.prog 112 #[F8 x,F8 y] w fun e w'=>e=.returned (V8 x y).val∧Below w.heap.size w w':=
 H7 (g:=Fy) 60 [Bj x 5 hx,Bj y 5 hy] [dE (Gs 1) rfl,dE (M8 x y hx hy) rfl] F9 Tryz.func112 (by kernel_rfl)
theorem B5i (x y:List UInt64) (hx:x.length=5) (hy:y.length=5) (w:World):Calls Tryz.prog 112 #[F8 x,F8 y] w fun e w'=>e=.returned (F8 (V8 x y).row)∧Below w.heap.size w w':=by
 simp only[Pn.seg];exact Oq x y hx hy w
theorem Di (b:List UInt8) (hb:b.length=32) (w:World):Calls Tryz.prog 113 #[A8 b] w fun e w'=>e=.returned (F8 (P5 b))∧Below w.heap.size w w':=
 H7 (g:=Fy) 60 [Je b 32 hb] [dEB (A9h b hb) (I4 b)] F9 Tryz.func113 (by kernel_rfl)
theorem D5j (w:World):Calls Tryz.prog 212 #[] w fun e w'=>e=.returned (F8 dee)∧Below w.heap.size w w':=
 H7 (g:=Fy) 60 [] [dE (Di D4h B0h) (I4 _)] F9 Tryz.func212 (by kernel_rfl)
theorem Uh (w:World):Calls Tryz.prog 115 #[] w fun e w'=>e=.returned (F8 T3)∧Below w.heap.size w w':=
 H7 (g:=Fy) 60 [] [dE (Di C0l A7i) (I4 _)] F9 Tryz.func115 (by kernel_rfl)
theorem Vv (w:World):Calls Tryz.prog 71 #[] w fun e w'=>e=.returned U6.val∧Below w.heap.size w w':=
 H7 (g:=Fy) 60 [] [dE (Di A0d A7u) (I4 _),dE (Di A2c A8d) (I4 _),dP (Oq (P5 A0d) (P5 A2c) (I4 _) (I4 _)) Q2] F9 Tryz.func71 (by kernel_rfl)
theorem D2w (p q:Pn) (hp:p.Ok) (hq:q.Ok) (X Y:Operand) (W:World):(do eqGuard .eql 160 X Y p.val q.val;binOp .eql 160 p.val q.val:Sem Value).run Tryz.prog W=.ok (.bool (p.row==q.row)) W:=by
 rw[←Pn.seg,←Pn.seg];have aA:(eqGuard .eql 160 X Y (F8 p.row) (F8 q.row)).run Tryz.prog W=.ok () W:=run_eqGuard_agg (P:=Tryz.prog) W .eql 160 X Y _ _ (by kernel_rfl);have e1:(binOp .eql 160 (F8 p.row) (F8 q.row)).run Tryz.prog W=.ok (.bool (p.row==q.row)) W:=by
  rw[F8,F8,run_eql_struct];exact congrArg (fun r:Result Bool=>r.andThen fun b w'=>Result.ok (Value.bool b) w') (A0h 9996 W p.row q.row hp.row hq.row)
 simp only[Sem.run_bind,aA,Result.andThen_ok,e1]
def D6y {Φ:Fcts} {S:World→Prop} (p q:Pn) (hp:p.Ok) (hq:q.Ok) {b:Bool} (hb:(p.row==q.row)=b):DC Tryz.prog Φ S:=Sj (op:=.eql) (t:=160) (x:=p.val) (y:=q.val) (v:=.bool b) (by rw[←hb];exact D2w p q hp hq) rfl
theorem Km (p:Pn) (hp:p.Ok) (w:World):Calls Tryz.prog 120 #[p.val] w fun e w'=>e=.returned (N8 p).val∧Below w.heap.size w w':=by
 unfold N8;cases h:p.row==J7 20
 ·exact H7 (g:=Fy) 60 (p.av hp) [D6y p Af hp Bw h] F9 Tryz.func120 (by kernel_rfl)
 ·exact H7 (g:=Fy) 60 (p.av hp) [D6y p Af hp Bw h,dE (Gs 0) rfl,dE (Gs 1) rfl,dP (Oq (Z9 0) (Z9 1) rfl rfl) (Bh rfl rfl)] F9 Tryz.func120 (by kernel_rfl)
theorem B4t (p q:Pn) (hp:p.Ok) (hq:q.Ok) (w:World):Calls Tryz.prog 213 #[p.val,q.val] w fun e w'=>e=.returned (B1n p q).val∧Below w.heap.size w w':=
 H7 (g:=Fy) 60 (p.av hp++q.av hq) [dP (Km p hp) (Q4 hp),dP (Km q hq) (Q4 hq),dE Uh O5,dP (Pu (N8 p) (N8 q) T3 (Q4 hp) (Q4 hq) O5) (Cs _ _ _)] F9 Tryz.func213 (by kernel_rfl)
theorem E6l (p:Pn) (hp:p.Ok) (w:World):Calls Tryz.prog 198 #[p.val] w fun e w'=>e=.returned (A6h p).val∧Below w.heap.size w w':=
 H7 (g:=Fy) 60 (p.av hp) [dP (Km p hp) (Q4 hp),dE (Gs 0) rfl,dE (Bi (Z9 0) (N8 p).x rfl (Q4 hp).x) rfl,dE (Bi (Z9 0) (N8 p).t rfl (Q4 hp).t) rfl] F9 Tryz.func198 (by kernel_rfl)
end
section
def B3r (q:Pn) (i:List UInt64):List UInt8:=if A1u (J5 q.x i) then (M7 (J5 q.y i)).set 31 (g8 (M7 (J5 q.y i)) 31 ||| 128) else M7 (J5 q.y i)
def Eh (p:Pn):List UInt8:=B3r (N8 p) (Vk (N8 p).z)
@[simp, go_sem] theorem U7 (p : Pn) : (Eh p).length = 32 := by unfold Eh B3r; split <;> simp
theorem C4m {p:Pn} (h:A1u (J5 (N8 p).x (Vk (N8 p).z))=true):Eh p=(M7 (J5 (N8 p).y (Vk (N8 p).z))).set 31 (g8 (M7 (J5 (N8 p).y (Vk (N8 p).z))) 31 ||| 128):=by unfold Eh B3r;rw[if_pos h]
theorem D0n {p:Pn} (h:A1u (J5 (N8 p).x (Vk (N8 p).z))=false):Eh p=M7 (J5 (N8 p).y (Vk (N8 p).z)):=by unfold Eh B3r;rw[if_neg (by rw[h];decide)]
set_option maxRecDepth 100000
theorem Uq (p:Pn) (hp:p.Ok) (w:World):Calls Tryz.prog 73 #[p.val] w fun e w'=>e=.returned (A8 (Eh p))∧Below w.heap.size w w':=by
 let q:=N8 p
 have hq:q.Ok:=Q4 hp;let i:=Vk q.z
 let l:=M7 (J5 q.y i)
 have hl:l.length=32:=Z1 _;let pre:DL w:=[dP (Km p hp) hq,dE (C0b q.z hq.z) rfl,dE (M8 q.y i hq.y rfl) rfl,D9w (Gl (J5 q.y i) rfl) hl,dE (M8 q.x i hq.x rfl) rfl]
 cases h:A1u (J5 q.x i)
 ·rw[D0n h,Pi hl];exact H7 (g:=gB) 60 (p.av hp) (pre++[dB (b:=false) (h▸Ji (J5 q.x i) rfl)]) F9 Tryz.func73 (by kernel_rfl)
 ·rw[C4m h,D7f hl];exact H7 (g:=gB) 60 (p.av hp) (pre++[dB (b:=true) (h▸Ji (J5 q.x i) rfl),dOr (g8 l 31) 128]) F9 Tryz.func73 (by kernel_rfl)
end
section
def Tz (b:List UInt8):List UInt8:=b.set 31 (g8 b 31 &&& 127)
theorem B3b {b:List UInt8} (h:b.length=32):(Tz b).length=32:=by unfold Tz;rw[List.length_set];exact h
def Tf (b:List UInt8):List UInt64:=P5 (Tz b)
theorem We (b:List UInt8):(Tf b).length=5:=I4 _
def Zo (b:List UInt8):List UInt64:=Es (J5 (Tf b) (Tf b)) (Z9 1)
def A0a (b:List UInt8):List UInt64:=Ed (J5 (J5 (Tf b) (Tf b)) dee) (Z9 1)
def Uf (b:List UInt8):List UInt64:=Qj (Zo b) (A0a b)
def Ja (b:List UInt8):Bool:=g8 b 31 >>> 7==1
def Cq (b:List UInt8):Bool:=Lp (Tz b)&&(Cm (Zo b) (A0a b) && !(Ja b&&M7 (Uf b)==z8 32))
def Ci (b:List UInt8):Pn:=if Cq b then V8 (if Ja b then Es (Z9 0) (Uf b) else Uf b) (Tf b) else Af
def Oc (b:List UInt8):Int:=if Cq b then 0 else 50
theorem Ul (b:List UInt8):(Ci b).Ok:=by
 unfold Ci;split
 ·refine Bh ?_ (We b);split
  ·rfl
  ·exact Td _ _
 ·exact Bw
theorem Ym {b:List UInt8} (h:Cq b=false):Ci b=Af∧Oc b=50:=by unfold Ci Oc;rw[if_neg (by rw[h];decide),if_neg (by rw[h];decide)];exact ⟨rfl,rfl⟩
theorem B2k {b:List UInt8} (h:Lp (Tz b)=false):Ci b=Af∧Oc b=50:=Ym (by unfold Cq;rw[h];rfl)
theorem A9t {b:List UInt8} (h:Cm (Zo b) (A0a b)=false):Ci b=Af∧Oc b=50:=Ym (by unfold Cq;rw[h];simp)
theorem C6g {b:List UInt8} (h:Ja b=true) (h2:(M7 (Uf b)==z8 32)=true):Ci b=Af∧Oc b=50:=Ym (by unfold Cq;rw[h,h2];simp)
theorem C7b {b:List UInt8} (h0:Lp (Tz b)=true) (h1:Cm (Zo b) (A0a b)=true) (h:Ja b=false):Ci b=V8 (Uf b) (Tf b)∧Oc b=0:=by
 have e:Cq b=true:=by unfold Cq;rw[h0,h1,h];rfl
 unfold Ci Oc;rw[if_pos e,if_pos e,if_neg (by rw[h];decide)];exact ⟨rfl,rfl⟩
theorem D5e {b:List UInt8} (h0:Lp (Tz b)=true) (h1:Cm (Zo b) (A0a b)=true) (h:Ja b=true) (h2:(M7 (Uf b)==z8 32)=false):Ci b=V8 (Es (Z9 0) (Uf b)) (Tf b)∧Oc b=0:=by
 have e:Cq b=true:=by unfold Cq;rw[h0,h1,h,h2];rfl
 unfold Ci Oc;rw[if_pos e,if_pos e,if_pos h];exact ⟨rfl,rfl⟩
set_option maxRecDepth 100000
theorem D9u {b:List UInt8} (hb:b.length=32):A8 (Tz b)=b31 b (g8 b 31 &&& 127):=D7f hb _
theorem B7h (b:List UInt8) (hb:b.length=32) (w:World):Calls Tryz.prog 194 #[A8 b] w fun e w'=>e=.returned (.tuple #[F8 (Ci b).row,.int .i64 (Oc b)])∧Below w.heap.size w w':=by
 rw[Pn.seg,Pi hb];let y:=Tf b
 have hy:y.length=5:=We b;let ρ:=[Je (b.take 31) 31 (by simp[hb]),Je [g8 b 31] 1 rfl]
 have aB:∀W,Calls Tryz.prog 167 #[b31 b (g8 b 31 &&& 127)] W fun e W'=>e=.returned (.tuple #[F8 y,.bool (Lp (Tz b))])∧Below W.heap.size W W':=by rw[←D9u hb];exact A9h (Tz b) (B3b hb)
 have aA:=C3h (Zo b) (A0a b) rfl rfl;let mid:DL w:=[dE (M8 y y hy hy) rfl,dE (Gs 1) rfl,dE (Bi (J5 y y) (Z9 1) rfl rfl) rfl,dE D5j Zf,dE (M8 (J5 y y) dee rfl Zf) rfl,dE (Cl (J5 (J5 y y) dee) (Z9 1) rfl rfl) rfl]
 let x:=Uf b
 have hx:x.length=5:=Td _ _;cases ho:Ja b
 ·let pre:DL w:=[E1j (g8 b 31) .u64 7 (by decide),D5x (g8 b 31 >>> 7) 1 ho,C3s (g8 b 31) 127]
  cases h0:Lp (Tz b)
  ·obtain⟨e1,e2⟩:=B2k h0;rw[e1,e2];exact H7 (g:=gB) 60 ρ (pre++[dEB (b:=false) (h0▸aB) hy]) F9 Tryz.func194 (by kernel_rfl)
  ·cases h1:Cm (Zo b) (A0a b)
   ·obtain⟨e1,e2⟩:=A9t h1;rw[e1,e2];exact H7 (g:=gB) 60 ρ (pre++(dEB (b:=true) (h0▸aB) hy::(mid++[dEB (b:=false) (h1▸aA) hx]))) F9 Tryz.func194 (by kernel_rfl)
   ·obtain⟨e1,e2⟩:=C7b h0 h1 ho;rw[e1,e2];exact H7 (g:=gB) 60 ρ (pre++(dEB (b:=true) (h0▸aB) hy::(mid++[dEB (b:=true) (h1▸aA) hx,dP (Oq x y hx hy) (Bh hx hy)]))) F9 Tryz.func194 (by kernel_rfl)
 ·let pre:DL w:=[E1j (g8 b 31) .u64 7 (by decide),D5x (g8 b 31 >>> 7) 1 ho,C3s (g8 b 31) 127]
  cases h0:Lp (Tz b)
  ·obtain⟨e1,e2⟩:=B2k h0;rw[e1,e2];exact H7 (g:=gB) 60 ρ (pre++[dEB (b:=false) (h0▸aB) hy]) F9 Tryz.func194 (by kernel_rfl)
  ·cases h1:Cm (Zo b) (A0a b)
   ·obtain⟨e1,e2⟩:=A9t h1;rw[e1,e2];exact H7 (g:=gB) 60 ρ (pre++(dEB (b:=true) (h0▸aB) hy::(mid++[dEB (b:=false) (h1▸aA) hx]))) F9 Tryz.func194 (by kernel_rfl)
   ·cases h2:M7 x==z8 32
    ·obtain⟨e1,e2⟩:=D5e h0 h1 ho h2;rw[e1,e2];exact H7 (g:=gB) 60 ρ (pre++(dEB (b:=true) (h0▸aB) hy::(mid++[dEB (b:=true) (h1▸aA) hx,D9w (Gl x hx) (Z1 _),D8m (M7 x) (z8 32) (Z1 _) rfl h2,dE (Gs 0) rfl,dE (Bi (Z9 0) x rfl hx) rfl,dP (Oq (Es (Z9 0) x) y rfl hy) (Bh rfl hy)]))) F9 Tryz.func194 (by kernel_rfl)
    ·obtain⟨e1,e2⟩:=C6g ho h2;rw[e1,e2];exact H7 (g:=gB) 60 ρ (pre++(dEB (b:=true) (h0▸aB) hy::(mid++[dEB (b:=true) (h1▸aA) hx,D9w (Gl x hx) (Z1 _),D8m (M7 x) (z8 32) (Z1 _) rfl h2]))) F9 Tryz.func194 (by kernel_rfl)
end
section
def Pl (ps:List Pn):List UInt64:=(ps.map Pn.row).flatten
def Ei (ps:List Pn):Prop:=∀p∈ps,p.Ok
theorem X8:∀ {ps:List Pn},Ei ps→(Pl ps).length=ps.length*20
 | [],_=>rfl
 | p::ps,h=>by
  have h1:=X8 (ps:=ps) fun q hq=>h q (by simp[hq]);have h2:=(h p (by simp)).row;show (p.row++Pl ps).length=_;rw[List.length_append,h1,h2,List.length_cons];omega
theorem C8q:∀ {ps:List Pn} (i:Nat),Ei ps→i<ps.length→((Pl ps).drop (i*20)).take 20=(ps.getD i Af).row
 | p::ps,0,h,_=>by
  have h2:=(h p (by simp)).row;show (p.row++Pl ps).take 20=p.row;rw[List.take_append_of_le_length (by omega),List.take_of_length_le (by omega)]
 | p::ps,i+1,h,hi=>by
  have h2:=(h p (by simp)).row;have h1:=C8q (ps:=ps) i (fun q hq=>h q (by simp[hq])) (by simpa using hi);show ((p.row++Pl ps).drop ((i+1)*20)).take 20=_;rw[show (i+1)*20=p.row.length+i*20 by omega,List.drop_append,List.drop_eq_nil_of_le (by omega),List.nil_append,Nat.add_sub_cancel_left,h1];rfl
theorem C8n:∀ {ps:List Pn} (i:Nat) {q:Pn},Ei ps→q.Ok→i<ps.length→(Pl ps).take (i*20)++q.row++(Pl ps).drop (i*20+20)=Pl (ps.set i q)
 | p::ps,0,q,h,hq,_=>by
  have h2:=(h p (by simp)).row;show (p.row++Pl ps).take 0++q.row++(p.row++Pl ps).drop (0+20)=q.row++Pl ps;rw[show 0+20=p.row.length+0 by omega,List.drop_append];simp
 | p::ps,i+1,q,h,hq,hi=>by
  have h2:=(h p (by simp)).row;have h1:=C8n (ps:=ps) i (fun q hq=>h q (by simp[hq])) hq (by simpa using hi);show (p.row++Pl ps).take ((i+1)*20)++q.row++(p.row++Pl ps).drop ((i+1)*20+20)=p.row++Pl (ps.set i q);rw[←h1,show (i+1)*20+20=p.row.length+(i*20+20) by omega,List.drop_append,List.drop_eq_nil_of_le (by omega),List.nil_append,Nat.add_sub_cancel_left,show (i+1)*20=p.row.length+i*20 by omega,List.take_append,List.take_of_length_le (by omega),Nat.add_sub_cancel_left];simp
theorem Ei.getD {ps:List Pn} (h:Ei ps) (i:Nat):(ps.getD i Af).Ok:=by
 by_cases hi:i<ps.length
 ·rw[List.getD_eq_getElem?_getD,List.getElem?_eq_getElem hi];exact h _ (List.getElem_mem hi)
 ·rw[List.getD_eq_getElem?_getD,List.getElem?_eq_none (by omega)];exact Bw
def Du (ps:List Pn) (i:Nat):Pn:=ps.getD i Af
theorem Ei.at {ps:List Pn} (h:Ei ps) (i:Nat):(Du ps i).Ok:=h.getD i
section
variable {w : World} {g : Nat} {t : TypeId} {ps : List Pn}
theorem Bk.plAt (K:Bk w g t (E4 (Pl ps))) (h:Ei ps) {i:Nat} (hi:i<ps.length):D9 w ⟨g,i*20,none⟩ 20=some (E4 (Du ps i).row):=by
 show _=some (E4 (ps.getD i Af).row);have hl:=X8 h;rw[K.rowMid (i*20) 20 (by simp[hl];omega),←C8q i h hi];simp[E4]
theorem Bk.plCan (K:Bk w g t (E4 (Pl ps))) (h:Ei ps) {i:Nat} (hi:i<ps.length):E7 w ⟨g,i*20,none⟩ 20=true:=by
 have hl:=X8 h;exact K.can (by simp[hl];omega)
theorem Bk.plPut (K:Bk w g t (E4 (Pl ps))) (h:Ei ps) {i:Nat} (hi:i<ps.length) {q:Pn} (hq:q.Ok):Bk (C4 w ⟨g,i*20,none⟩ (E4 q.row)) g t (E4 (Pl (ps.set i q))):=by
 have hl:=X8 h;have h1:=K.put (o:=i*20) (vs:=E4 q.row) (by simp[hl,hq.row];omega);rw[←C8n i h hq hi];simpa [E4,hq.row] using h1
end
def Ee (f:Nat→Pn) (n m:Nat):List Pn:=(List.range n).map fun i=>if i<m then f i else Af
@[simp] theorem Xd (f : Nat → Pn) (n m : Nat) : (Ee f n m).length = n := by simp [Ee]
theorem Ip {f:Nat→Pn} (hf:∀i,(f i).Ok) (n m:Nat):Ei (Ee f n m):=fun p hp=>by
 obtain⟨i,_,rfl⟩:=List.mem_map.1 hp;split
 ·exact hf i
 ·exact Bw
theorem C7q {f:Nat→Pn} {n m i:Nat} (hi:i<n):(Ee f n m).getD i Af=if i<m then f i else Af:=by
 rw[List.getD_eq_getElem?_getD];simp[Ee,hi]
theorem B9r {f:Nat→Pn} {n m i:Nat} (hi:i<n):Du (Ee f n m) i=if i<m then f i else Af:=C7q hi
theorem D0g {f:Nat→Pn} {n m:Nat} (hm:m<n) {q:Pn} (hq:q=f m):(Ee f n m).set m q=Ee f n (m+1):=by
 subst hq;apply List.ext_getElem
 ·simp
 ·intro i h1 h2;simp only[Ee,List.getElem_set,List.getElem_map,List.getElem_range];by_cases e:m=i
  ·subst e;simp
  ·rw[if_neg e];by_cases h:i<m
   ·rw[if_pos h,if_pos (by omega)]
   ·rw[if_neg h,if_neg (by omega)]
theorem E0t (f:Nat→Pn):Pl (Ee f 32 0)=J7 640:=by kernel_rfl
def Tl (n:List UInt8) (i:Nat):UInt8:=g8 n (i / 2) >>> UInt8.ofNat (4*(i % 2)) &&& 15
theorem B7g (n:List UInt8) (i:Nat):(Tl n i).toNat<16:=by
 unfold Tl;rw[UInt8.toNat_and];exact Nat.lt_of_le_of_lt Nat.and_le_right (by decide)
theorem C1i (n:List UInt8) (hn:n.length=32) (i:Nat) (hi:i<64) (w:World):Calls Tryz.prog 119 #[A8 n,.int .i64 (i:Int)] w fun e w'=>e=.returned (.int .u8 (n8 (Tl n i)))∧Below w.heap.size w w':=by
 have aB:(i:Int) / 2=((i / 2:Nat):Int):=by omega
 have aC:(i:Int) % 2=((i % 2:Nat):Int):=by omega
 have aD:i / 2<32:=by omega
 have h2:i % 2<2:=by omega
 have k0:=(Bk.new w 35 (c8 n)).at_ (Jo (l:=n) (i:=i / 2) (by omega));obtain⟨D,hD⟩:∃d,d=Tl n i:=⟨_,rfl⟩;have aA:D=g8 n (i / 2) >>> UInt8.ofNat (4*(i % 2)) &&& 15:=hD;have HD:=Lib.hid hD;rw[←hD];have HE:=Lib.hid aA;clear hD aA;have hB:Below w.heap.size w (w.alloc (Obj.cells (c8 n).toArray 35)):=(Below.refl _ _).alloc (Nat.le_refl _) _;generalize i / 2=q at *;generalize i % 2=r at *;obtain⟨s,hs⟩:∃s,s=4*r:=⟨_,rfl⟩;have h4:4*(r:Int)=(s:Int):=by omega
 have aE:s<8:=by omega
 have HS:=Lib.hid hs;clear hs;go_enter Tryz.func119,Tryz.ntmps119;go_wp2_with fail;go_ret;exact ⟨by rw[HE.out,HS.out];rfl,hB⟩
end
section
def dg (n:List UInt8) (i:Nat):Nat:=(Tl n i).toNat
theorem B3m (n:List UInt8) (i:Nat):dg n i<16:=B7g n i
theorem Ql (n:List UInt8) (hn:n.length=32) (i:Nat) (hi:i<64) (w:World):Calls Tryz.prog 119 #[A8 n,.int .i64 (i:Int)] w fun e w'=>e=.returned (.int .u8 ((dg n i:Nat):Int))∧Below w.heap.size w w':=C1i n hn i hi w
def B5k (p:Pn) (k:List UInt64):Nat→Pn
 | 0=>N8 Af
 | 1=>N8 p
 | i+2=>Fv (B5k p k (i+1)) (N8 p) k
theorem A7f {p:Pn} (hp:p.Ok) (k:List UInt64):∀i,(B5k p k i).Ok
 | 0=>Q4 Bw
 | 1=>Q4 hp
 | i+2=>Cs _ _ _
def Ax (p:Pn) (k:List UInt64):List Pn:=Ee (B5k p k) 16 16
theorem Ml {p:Pn} (hp:p.Ok) (k:List UInt64):Ei (Ax p k):=Ip (A7f hp k) 16 16
@[simp, go_sem] theorem Ko (p : Pn) (k : List UInt64) : (Ax p k).length = 16 := Xd _ _ _
theorem Vy {p:Pn} {k:List UInt64} {i:Nat} (hi:i<16):Du (Ax p k) i=B5k p k i:=by
 unfold Ax;rw[B9r hi,if_pos hi]
def plC:List Pn→List Value
 | []=>[]
 | [q]=>E4 q.x++(E4 q.y++(E4 q.z++E4 q.t))
 | q::l=>E4 q.x++(E4 q.y++(E4 q.z++(E4 q.t++plC l)))
theorem C8p:∀l:List Pn,E4 (Pl l)=plC l
 | []=>rfl
 | [q]=>by simp[plC,Pl,Pn.row,ptl,E4]
 | q::r::l=>by
  have ih:=C8p (r::l);have h:E4 (Pl (q::r::l))=E4 q.row++E4 (Pl (r::l)):=by simp[Pl,E4]
  rw[h,ih];simp[plC,Pn.row,ptl,E4]
set_option maxRecDepth 100000
theorem C5v (p:Pn) (k:List UInt64) (hp:p.Ok) (hk:k.length=5) (w:World):Calls Tryz.prog 116 #[F8 p.row,F8 k] w fun e w'=>e=.returned (F8 (Pl (Ax p k)))∧Below w.heap.size w w':=by
 rw[Pn.seg,show F8 (Pl (Ax p k))=.agg (plC (Ax p k)).toArray by rw[F8,C8p]];exact H7 (g:=Fy) 100 (p.av hp++[Bj k 5 hk]) ([dP (Km Af Bw) (Q4 Bw),dP (Km p hp) (Q4 hp)]++(List.range 14).map fun i=>dP (Pu (B5k p k (i+1)) (N8 p) k (A7f hp k _) (Q4 hp) hk) (A7f hp k (i+2))) F9 Tryz.func116 (by kernel_rfl)
end
end Go.Proofs.YtdfpoofbgjilgaaGreat
