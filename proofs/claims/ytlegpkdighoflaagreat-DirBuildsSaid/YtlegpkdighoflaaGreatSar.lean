/- A part of the proof of DirBuilds. -/
import Derived.Test.YtlegpkdighoflaaGreatSaq
set_option linter.unusedVariables false
set_option linter.unusedSimpArgs false
set_option maxRecDepth 100000
set_option maxHeartbeats 40000000
namespace Go.Proofs.YtlegpkdighoflaaGreat
open Go Go.RowKit Sh
section
def gPt:Cfg:=⟨fun t=>if t=140 then some [5,5,5,5] else none,fun _=>none,noF⟩
def Pn.val (p:Pn):Value:=.agg (C7 p.x++(C7 p.y++(C7 p.z++C7 p.t))).toArray
theorem Pn.seg (p:Pn):J7 p.row=p.val:=by
 unfold J7 Pn.val Pn.row ptl C7;simp
def Pn.av (p:Pn) (h:p.Ok):List Av:=[Gl p.x 5 h.x,Gl p.y 5 h.y,Gl p.z 5 h.z,Gl p.t 5 h.t]
section
variable {f : FuncId} {args : Array Value} {Φ : Fcts} {S : World → Prop}
def dP {p:Pn} (h:∀W,Calls Tryz.prog f args W fun e W'=>e=.returned p.val∧Below W.heap.size W W') (hp:p.Ok):DC Tryz.prog Φ S:=⟨.call f (fun _=>args) (fun _=>p.val) none (fun _ _=>True),fun _ W _ _=>h W,p.av hp⟩
end
theorem size_u8 (w:World):(sizeOf 5).run Tryz.prog w=.ok 1 w:=by
 have hi:(Tryz.prog.info? 5).map (·.size)=some 1:=by kernel_rfl
 cases hq:Tryz.prog.info? 5 with
 | none=>simp[hq]at hi
 | some j=>simp[hq]at hi;simp[sizeOf,typeInfo,hq,hi]
theorem B7q (l m:List UInt8) (hl:l.length=32) (hm:m.length=32) (X Y:Operand) (W:World):(do eqGuard .eql 23 X Y (A8 l) (A8 m);binOp .eql 23 (A8 l) (A8 m):Sem Value).run Tryz.prog W=.ok (.bool (l==m)) W:=by
 have aA:(eqGuard .eql 23 X Y (A8 l) (A8 m)).run Tryz.prog W=.ok () W:=run_eqGuard_agg (P:=Tryz.prog) W .eql 23 X Y _ _ (by kernel_rfl);have e1:(binOp .eql 23 (A8 l) (A8 m)).run Tryz.prog W=.ok (.bool (l==m)) W:=run_eql_bytes (P:=Tryz.prog) W 23 5 32 Tryz.underlying23 Tryz.underlying5 size_u8 l m hl hm;simp only[Sem.run_bind,aA,Result.andThen_ok,e1]
theorem D2l (l m:List UInt8) (hl:l.length=32) (hm:m.length=32) (X Y:Operand) (W:World):(do eqGuard .neq 23 X Y (A8 l) (A8 m);binOp .neq 23 (A8 l) (A8 m):Sem Value).run Tryz.prog W=.ok (.bool (!(l==m))) W:=by
 have aA:(eqGuard .neq 23 X Y (A8 l) (A8 m)).run Tryz.prog W=.ok () W:=run_eqGuard_agg (P:=Tryz.prog) W .neq 23 X Y _ _ (by kernel_rfl);have e1:(binOp .neq 23 (A8 l) (A8 m)).run Tryz.prog W=.ok (.bool (!(l==m))) W:=by rw[A8,A8,run_neq_struct];exact congrArg (fun r:Result Bool=>r.andThen fun b w'=>Result.ok (Value.bool (!b)) w') (run_equalIn_bytes (P:=Tryz.prog) W 9998 23 5 32 Tryz.underlying23 Tryz.underlying5 size_u8 l m hl hm)
 simp only[Sem.run_bind,aA,Result.andThen_ok,e1]
def dEq {Φ:Fcts} {S:World→Prop} (l m:List UInt8) (hl:l.length=32) (hm:m.length=32) {b:Bool} (hb:(l==m)=b):DC Tryz.prog Φ S:=B9l (op:=.eql) (t:=23) (x:=A8 l) (y:=A8 m) (v:=.bool b) (by rw[←hb];exact B7q l m hl hm) rfl
def dNe {Φ:Fcts} {S:World→Prop} (l m:List UInt8) (hl:l.length=32) (hm:m.length=32) {b:Bool} (hb:(l==m)=b):DC Tryz.prog Φ S:=B9l (op:=.neq) (t:=23) (x:=A8 l) (y:=A8 m) (v:=.bool (!b)) (by rw[←hb];exact D2l l m hl hm) rfl
def dO8 {Φ:Fcts} {S:World→Prop} {op:BinOp} {x y v:Value} (h:∀W,(binOp op 5 x y).run Tryz.prog W=.ok v W) (hg:∀(X Y:Operand) W,(eqGuard op 5 X Y x y).run Tryz.prog W=.ok () W) (ho:v.oneCell'=true):DC Tryz.prog Φ S:=
 B9l (op:=op) (t:=5) (x:=x) (y:=y) (v:=v) (fun X Y W=>by simp only[Sem.run_bind,hg X Y W,Result.andThen_ok,h W]) ho
def dOr {Φ:Fcts} {S:World→Prop} (x y:UInt8):DC Tryz.prog Φ S:=dO8 (op:=.or) (x:=.int .u8 (n8 x)) (y:=.int .u8 (n8 y)) (v:=.int .u8 (n8 (x ||| y))) (fun W=>by rw[show binOp .or 5 (.int .u8 (n8 x)) (.int .u8 (n8 y))=Op.intBits .or .u8 (n8 x) (n8 y) from rfl,or8];rfl) (fun _ _ _=>rfl) rfl
def E4y {Φ:Fcts} {S:World→Prop} (x y:UInt8):DC Tryz.prog Φ S:=dO8 (op:=.and) (x:=.int .u8 (n8 x)) (y:=.int .u8 (n8 y)) (v:=.int .u8 (n8 (x &&& y))) (fun W=>by rw[show binOp .and 5 (.int .u8 (n8 x)) (.int .u8 (n8 y))=Op.intBits .and .u8 (n8 x) (n8 y) from rfl,C5e];rfl) (fun _ _ _=>rfl) rfl
def E6l {Φ:Fcts} {S:World→Prop} (x:UInt8) (k:IntKind) (s:Nat) (hs:s<8):DC Tryz.prog Φ S:=dO8 (op:=.shr) (x:=.int .u8 (n8 x)) (y:=.int k (s:Int)) (v:=.int .u8 (n8 (x >>> UInt8.ofNat s))) (fun W=>by rw[show binOp .shr 5 (.int .u8 (n8 x)) (.int k (s:Int))=Op.shift .shr .u8 (n8 x) k (s:Int) from rfl,Vl x k s hs];rfl) (fun _ _ _=>rfl) rfl
def E0t {Φ:Fcts} {S:World→Prop} (x y:UInt8) {b:Bool} (hb:(x==y)=b):DC Tryz.prog Φ S:=dO8 (op:=.eql) (x:=.int .u8 (n8 x)) (y:=.int .u8 (n8 y)) (v:=.bool b) (fun W=>by rw[show binOp .eql 5 (.int .u8 (n8 x)) (.int .u8 (n8 y))=pure (.bool (n8 x==n8 y)) from rfl,Qh,hb];rfl) (fun _ _ _=>rfl) rfl
def b31 (l:List UInt8) (x:UInt8):Value:=.agg (c8 (l.take 31)++c8 [x]).toArray
theorem Qs {l:List UInt8} (hl:l.length=32):A8 l=b31 l (Sh.g8 l 31):=by
 have h1:l=l.take 31++[Sh.g8 l 31]:=by
  conv=>lhs;rw[←List.take_append_drop 31 l]
  congr 1;rw[List.drop_eq_getElem_cons (by omega),List.drop_eq_nil_of_le (by omega)];simp[Sh.g8,List.getD_eq_getElem?_getD,hl]
 unfold A8 b31;conv=>lhs;rw[h1]
 simp[c8]
theorem D3k {l:List UInt8} (hl:l.length=32) (x:UInt8):A8 (l.set 31 x)=b31 l x:=by
 rw[Qs (by simpa using hl)];unfold b31;rw[List.take_set_of_le (by omega)];simp[Sh.g8,List.getD_eq_getElem?_getD,hl]
def D7d {Φ:Fcts} {S:World→Prop} {f:FuncId} {args:Array Value} {l:List UInt8} (h:∀W,Calls Tryz.prog f args W fun e W'=>e=.returned (A8 l)∧Below W.heap.size W W') (hl:l.length=32):DC Tryz.prog Φ S:=
 ⟨.call f (fun _=>args) (fun _=>b31 l (Sh.g8 l 31)) none (fun _ _=>True),fun _ W _ _=>by rw[←Qs hl];exact h W,[av8 (l.take 31) 31 (by simp[hl]),av8 [Sh.g8 l 31] 1 rfl]⟩
def D3r {Φ:Fcts} {S:World→Prop} (l m:List UInt8) (hl:l.length=32) (hm:m.length=32) {b:Bool} (hb:(l==m)=b):DC Tryz.prog Φ S:=B9l (op:=.eql) (t:=23) (x:=b31 l (Sh.g8 l 31)) (y:=b31 m (Sh.g8 m 31)) (v:=.bool b) (by rw[←hb,←Qs hl,←Qs hm];exact B7q l m hl hm) rfl
def gB:Cfg:=⟨fun t=>if t=23 then some [31,1] else gPt.cut t,fun _=>none,noF⟩
end
section
set_option maxRecDepth 100000
theorem A8n (a:List UInt64) (ha:a.length=5) (w:World):Calls Tryz.prog 129 #[J7 a] w fun e w'=>e=.returned (.tuple #[J7 (Sd a),J7 (It a)])∧Below w.heap.size w w':=by
 let sq:=fun (n:Nat) (hn:n≤1000000) (x:List UInt64) (hx:x.length=5)=>(dE (Qj x hx n hn) (Xx hx n):DC1 w)
 let mul:=fun (x y:List UInt64) (hx:x.length=5) (hy:y.length=5)=>(dE (Q6 x y hx hy) rfl:DC1 w)
 let u:=P6 (Fu 20 (f20 a)) (f20 a)
 let v:=P6 (Fu 100 (A3f a)) (A3f a)
 exact T3 (g:=gPt) 60 [Gl a 5 ha]
  [dE (Yj a ha) rfl,sq 2 (by decide) (fsq a) rfl,mul (Fu 2 (fsq a)) a rfl ha,mul (Zv a) (fsq a) rfl rfl,dE (Yj (It a) rfl) rfl,mul (fsq (It a)) (Zv a) rfl rfl,
   sq 5 (by decide) (f5 a) rfl,mul (Fu 5 (f5 a)) (f5 a) rfl rfl,sq 10 (by decide) (f10 a) rfl,mul (Fu 10 (f10 a)) (f10 a) rfl rfl,sq 20 (by decide) (f20 a) rfl,mul (Fu 20 (f20 a)) (f20 a) rfl rfl,
   sq 10 (by decide) u rfl,mul (Fu 10 u) (f10 a) rfl rfl,sq 50 (by decide) (f50 a) rfl,mul (Fu 50 (f50 a)) (f50 a) rfl rfl,sq 100 (by decide) (A3f a) rfl,mul (Fu 100 (A3f a)) (A3f a) rfl rfl,sq 50 (by decide) v rfl,mul (Fu 50 v) (f50 a) rfl rfl]
  Af Tryz.func129 (by kernel_rfl)
theorem B7x (a:List UInt64) (ha:a.length=5) (w:World):Calls Tryz.prog 101 #[J7 a] w fun e w'=>e=.returned (J7 (Ws a))∧Below w.heap.size w w':=
 T3 (g:=gPt) 60 [Gl a 5 ha] [dEE (A8n a ha) rfl rfl,dE (Qj (Sd a) rfl 5 (by decide)) rfl,dE (Q6 (Fu 5 (Sd a)) (It a) rfl rfl) rfl] Af Tryz.func101 (by kernel_rfl)
end
section
def Xn (u v:List UInt64):List UInt64:=P6 u (Ws v)
def Sx (u v:List UInt64):List UInt64:=P6 (Fu 2 (Sd (Xn u v))) (fsq (Xn u v))
def A7a (x w:List UInt64):Bool:=P5 (P6 x x)==P5 w
def Jl (u v:List UInt64):List UInt64:=if A7a (Sx u v) (Xn u v) then Sx u v else P6 (Sx u v) Fx
def B5a (x:List UInt64):List UInt64:=if A1t x then Gu (J8 5) x else x
def Ex (u v:List UInt64):Bool:=!(P5 v==z8 32)&&A7a (Jl u v) (Xn u v)
def Rv (u v:List UInt64):List UInt64:=if Ex u v then B5a (Jl u v) else J8 5
@[simp, go_sem] theorem D0g (u v : List UInt64) : (Xn u v).length = 5 := rfl
@[simp, go_sem] theorem C8u (u v : List UInt64) : (Sx u v).length = 5 := rfl
theorem A3g (u v:List UInt64):(Jl u v).length=5:=by unfold Jl;split<;>rfl
theorem Uz (u v:List UInt64):(Rv u v).length=5:=by
 unfold Rv B5a;split
 ·split
  ·rfl
  ·exact A3g u v
 ·rfl
theorem B8v {u v:List UInt64} (h:Ex u v=false):Rv u v=J8 5:=by unfold Rv;rw[if_neg (by rw[h];decide)]
theorem A9t {u v:List UInt64} (h:Ex u v=true):Rv u v=B5a (Jl u v):=by unfold Rv;rw[if_pos h]
set_option maxRecDepth 100000
theorem C0v (u v:List UInt64) (hu:u.length=5) (hv:v.length=5) (w:World):Calls Tryz.prog 141 #[J7 u,J7 v] w fun e w'=>e=.returned (.tuple #[J7 (Rv u v),.bool (Ex u v)])∧Below w.heap.size w w':=by
 have hh:∀x,(P5 x).length=32:=Ei;let hash:=fun (x:List UInt64) (hx:x.length=5)=>(dH (Iv x hx) (hh x):DC1 w)
 let mul:=fun (x y:List UInt64) (hx:x.length=5) (hy:y.length=5)=>(dE (Q6 x y hx hy) rfl:DC1 w)
 let W:=Xn u v
 let X:=Sx u v
 cases h1:P5 v==z8 32
 ·let pre:DL w:=[hash v hv,dEq (P5 v) (z8 32) (hh v) rfl h1,dE (B7x v hv) rfl,mul u (Ws v) hu rfl,dEE (A8n W rfl) rfl rfl,dE (Qj (Sd W) rfl 2 (by decide)) rfl,dE (Yj W rfl) rfl,mul (Fu 2 (Sd W)) (fsq W) rfl rfl,mul X X rfl rfl,hash (P6 X X) rfl,hash W rfl]
  cases h2:P5 (P6 X X)==P5 W
  ·let Y:=P6 X Fx
   have e2:Jl u v=Y:=by unfold Jl A7a;rw[h2];rfl
   let mid:DL w:=[dNe (P5 (P6 X X)) (P5 W) (hh _) (hh _) h2,dE A7b rfl,mul X Fx rfl rfl,mul Y Y rfl rfl,hash (P6 Y Y) rfl,hash W rfl]
   cases h3:P5 (P6 Y Y)==P5 W
   ·have hB:Ex u v=false:=by unfold Ex A7a;rw[e2,h1,h3];rfl
    rw[B8v hB,hB];exact T3 (g:=gPt) 60 [Gl u 5 hu,Gl v 5 hv] (pre++(mid++[dNe (P5 (P6 Y Y)) (P5 W) (hh _) (hh _) h3])) Af Tryz.func141 (by kernel_rfl)
   ·have hB:Ex u v=true:=by unfold Ex A7a;rw[e2,h1,h3];rfl
    rw[A9t hB,hB,e2];unfold B5a;cases h4:A1t Y
    ·exact T3 (g:=gPt) 60 [Gl u 5 hu,Gl v 5 hv] (pre++(mid++[dNe (P5 (P6 Y Y)) (P5 W) (hh _) (hh _) h3,dB (b:=false) (h4▸Lo Y rfl)])) Af Tryz.func141 (by kernel_rfl)
    ·exact T3 (g:=gPt) 60 [Gl u 5 hu,Gl v 5 hv] (pre++(mid++[dNe (P5 (P6 Y Y)) (P5 W) (hh _) (hh _) h3,dB (b:=true) (h4▸Lo Y rfl),dE (Dq (J8 5) Y rfl rfl) rfl])) Af Tryz.func141 (by kernel_rfl)
  ·have e2:Jl u v=X:=by unfold Jl A7a;rw[h2];rfl
   let mid:DL w:=[dNe (P5 (P6 X X)) (P5 W) (hh _) (hh _) h2,mul X X rfl rfl,hash (P6 X X) rfl,hash W rfl,dNe (P5 (P6 X X)) (P5 W) (hh _) (hh _) h2]
   have hB:Ex u v=true:=by unfold Ex A7a;rw[e2,h1,h2];rfl
   rw[A9t hB,hB,e2];unfold B5a;cases h4:A1t X
   ·exact T3 (g:=gPt) 60 [Gl u 5 hu,Gl v 5 hv] (pre++(mid++[dB (b:=false) (h4▸Lo X rfl)])) Af Tryz.func141 (by kernel_rfl)
   ·exact T3 (g:=gPt) 60 [Gl u 5 hu,Gl v 5 hv] (pre++(mid++[dB (b:=true) (h4▸Lo X rfl),dE (Dq (J8 5) X rfl rfl) rfl])) Af Tryz.func141 (by kernel_rfl)
 ·have hB:Ex u v=false:=by unfold Ex;rw[h1];rfl
  rw[B8v hB,hB];exact T3 (g:=gPt) 60 [Gl u 5 hu,Gl v 5 hv] [hash v hv,dEq (P5 v) (z8 32) (hh v) rfl h1] Af Tryz.func141 (by kernel_rfl)
end
section
def X6 (p q:Pn) (k:List UInt64):Pn:=
 let a:=P6 (Gu p.y p.x) (Gu q.y q.x)
 let b:=P6 (Gk p.y p.x) (Gk q.y q.x)
 let c:=P6 (P6 p.t k) q.t
 let d:=P6 p.z q.z
 let d2:=Gk d d
 let e:=Gu b a
 let f:=Gu d2 c
 let g:=Gk d2 c
 let h:=Gk b a
 ⟨P6 e f,P6 g h,P6 f g,P6 e h⟩
theorem Db (p q:Pn) (k:List UInt64):(X6 p q k).Ok:=⟨rfl,rfl,rfl,rfl⟩
set_option maxRecDepth 100000
theorem A6d (p q:Pn) (k:List UInt64) (hp:p.Ok) (hq:q.Ok) (hk:k.length=5) (w:World):Calls Tryz.prog 98 #[p.val,q.val,J7 k] w fun e w'=>e=.returned (X6 p q k).val∧Below w.heap.size w w':=by
 let a:=P6 (Gu p.y p.x) (Gu q.y q.x)
 let b:=P6 (Gk p.y p.x) (Gk q.y q.x)
 let c:=P6 (P6 p.t k) q.t
 let d:=Gk (P6 p.z q.z) (P6 p.z q.z)
 exact T3 (g:=gPt) 60 (p.av hp++(q.av hq++[Gl k 5 hk]))
  [dE (Dq p.y p.x hp.y hp.x) rfl,dE (Dq q.y q.x hq.y hq.x) rfl,dE (Q6 (Gu p.y p.x) (Gu q.y q.x) rfl rfl) rfl,
   dE (Ey p.y p.x hp.y hp.x) rfl,dE (Ey q.y q.x hq.y hq.x) rfl,dE (Q6 (Gk p.y p.x) (Gk q.y q.x) rfl rfl) rfl,
   dE (Q6 p.t k hp.t hk) rfl,dE (Q6 (P6 p.t k) q.t rfl hq.t) rfl,
   dE (Q6 p.z q.z hp.z hq.z) rfl,dE (Ey (P6 p.z q.z) (P6 p.z q.z) rfl rfl) rfl,
   dE (Dq b a rfl rfl) rfl,dE (Dq d c rfl rfl) rfl,dE (Ey d c rfl rfl) rfl,dE (Ey b a rfl rfl) rfl,
   dE (Q6 (Gu b a) (Gu d c) rfl rfl) rfl,dE (Q6 (Gk d c) (Gk b a) rfl rfl) rfl,dE (Q6 (Gu d c) (Gk d c) rfl rfl) rfl,dE (Q6 (Gu b a) (Gk b a) rfl rfl) rfl]
  Af Tryz.func98 (by kernel_rfl)
theorem Qw (p q:Pn) (k:List UInt64) (hp:p.Ok) (hq:q.Ok) (hk:k.length=5) (w:World):Calls Tryz.prog 98 #[J7 p.row,J7 q.row,J7 k] w fun e w'=>e=.returned (J7 (X6 p q k).row)∧Below w.heap.size w w':=by
 simp only[Pn.seg];exact A6d p q k hp hq hk w
end
section
def Gm (p:Pn):Pn:=
 let a:=P6 p.x p.x
 let b:=P6 p.y p.y
 let c:=P6 p.z p.z
 let h:=Gk a b
 let s:=Gk p.x p.y
 let e:=Gu h (P6 s s)
 let g:=Gu a b
 let f:=Gk (Gk c c) g
 ⟨P6 e f,P6 g h,P6 f g,P6 e h⟩
theorem Fc (p:Pn):(Gm p).Ok:=⟨rfl,rfl,rfl,rfl⟩
set_option maxRecDepth 100000
theorem C1d (p:Pn) (hp:p.Ok) (w:World):Calls Tryz.prog 97 #[p.val] w fun e w'=>e=.returned (Gm p).val∧Below w.heap.size w w':=by
 let a:=P6 p.x p.x
 let b:=P6 p.y p.y
 let c:=P6 p.z p.z
 let h:=Gk a b
 let s:=Gk p.x p.y
 let e:=Gu h (P6 s s)
 let g:=Gu a b
 let f:=Gk (Gk c c) g
 exact T3 (g:=gPt) 60 (p.av hp)
  [dE (Q6 p.x p.x hp.x hp.x) rfl,dE (Q6 p.y p.y hp.y hp.y) rfl,dE (Q6 p.z p.z hp.z hp.z) rfl,dE (Ey a b rfl rfl) rfl,dE (Ey p.x p.y hp.x hp.y) rfl,
   dE (Q6 s s rfl rfl) rfl,dE (Dq h (P6 s s) rfl rfl) rfl,dE (Dq a b rfl rfl) rfl,dE (Ey c c rfl rfl) rfl,dE (Ey (Gk c c) g rfl rfl) rfl,
   dE (Q6 e f rfl rfl) rfl,dE (Q6 g h rfl rfl) rfl,dE (Q6 f g rfl rfl) rfl,dE (Q6 e h rfl rfl) rfl]
  Af Tryz.func97 (by kernel_rfl)
theorem Pe (p:Pn) (hp:p.Ok) (w:World):Calls Tryz.prog 97 #[J7 p.row] w fun e w'=>e=.returned (J7 (Gm p).row)∧Below w.heap.size w w':=by
 simp only[Pn.seg];exact C1d p hp w
end
section
def D0u:List UInt8:=[163,120,89,19,202,77,235,117,171,216,65,65,77,10,112,0,152,232,121,119,121,64,199,140,115,254,111,43,238,108,3,82]
@[simp, go_sem] theorem B1n : D0u.length = 32 := rfl
attribute [irreducible] D0u
def B6s:List UInt8:=[89,241,178,38,148,155,214,235,86,177,131,130,154,20,224,0,48,209,243,238,242,128,142,25,231,252,223,86,220,217,6,36]
@[simp, go_sem] theorem A7u : B6s.length = 32 := rfl
attribute [irreducible] B6s
def A0x:List UInt8:=[26,213,37,143,96,45,86,201,178,167,37,149,96,199,44,105,92,220,214,253,49,226,164,192,254,83,110,205,211,54,105,33]
@[simp, go_sem] theorem A6t : A0x.length = 32 := rfl
attribute [irreducible] A0x
def Zo:List UInt8:=[88,102,102,102,102,102,102,102,102,102,102,102,102,102,102,102,102,102,102,102,102,102,102,102,102,102,102,102,102,102,102,102]
@[simp, go_sem] theorem A5t : Zo.length = 32 := rfl
attribute [irreducible] Zo
def Cm:Pn:=⟨J8 5,J8 5,J8 5,J8 5⟩
theorem Dn:Cm.Ok:=⟨by simp[Cm],by simp[Cm],by simp[Cm],by simp[Cm]⟩
def Bs (x y:List UInt64):Pn:=⟨x,y,Cr 1,P6 x y⟩
theorem Dk {x y:List UInt64} (hx:x.length=5) (hy:y.length=5):(Bs x y).Ok:=⟨hx,hy,rfl,rfl⟩
def dee:List UInt64:=T7 D0u
def F0:List UInt64:=T7 B6s
@[simp, go_sem] theorem A2u : dee.length = 5 := M7 _
@[simp, go_sem] theorem O7 : F0.length = 5 := M7 _
def Q3 (p:Pn):Pn:=if p.row==J8 20 then Bs (Cr 0) (Cr 1) else p
theorem X3 {p:Pn} (hp:p.Ok):(Q3 p).Ok:=by
 unfold Q3;split
 ·exact Dk rfl rfl
 ·exact hp
def C3:Pn:=Bs (T7 A0x) (T7 Zo)
theorem Ae:C3.Ok:=Dk (M7 _) (M7 _)
def B1w (p q:Pn):Pn:=X6 (Q3 p) (Q3 q) F0
def Hy (p:Pn):Pn:=⟨Gu (Cr 0) (Q3 p).x,(Q3 p).y,(Q3 p).z,Gu (Cr 0) (Q3 p).t⟩
theorem Mk (p q:Pn):(B1w p q).Ok:=Db _ _ _
theorem D2z {p:Pn} (hp:p.Ok):(Hy p).Ok:=⟨rfl,(X3 hp).y,(X3 hp).z,rfl⟩
set_option maxRecDepth 100000
theorem Qd (x y:List UInt64) (hx:x.length=5) (hy:y.length=5) (w:World):Calls Tryz.prog 92 #[J7 x,J7 y] w fun e w'=>e=.returned (Bs x y).val∧Below w.heap.size w w':=
 T3 (g:=gPt) 60 [Gl x 5 hx,Gl y 5 hy] [dE (Iz 1) rfl,dE (Q6 x y hx hy) rfl] Af Tryz.func92 (by kernel_rfl)
theorem B3y (x y:List UInt64) (hx:x.length=5) (hy:y.length=5) (w:World):Calls Tryz.prog 92 #[J7 x,J7 y] w fun e w'=>e=.returned (J7 (Bs x y).row)∧Below w.heap.size w w':=by
 simp only[Pn.seg];exact Qd x y hx hy w
theorem Fj (b:List UInt8) (hb:b.length=32) (w:World):Calls Tryz.prog 93 #[A8 b] w fun e w'=>e=.returned (J7 (T7 b))∧Below w.heap.size w w':=
 T3 (g:=gPt) 60 [av8 b 32 hb] [dEB (B2l b hb) (M7 b)] Af Tryz.func93 (by kernel_rfl)
theorem D0o (w:World):Calls Tryz.prog 142 #[] w fun e w'=>e=.returned (J7 dee)∧Below w.heap.size w w':=
 T3 (g:=gPt) 60 [] [dE (Fj D0u B1n) (M7 _)] Af Tryz.func142 (by kernel_rfl)
theorem Vn (w:World):Calls Tryz.prog 95 #[] w fun e w'=>e=.returned (J7 F0)∧Below w.heap.size w w':=
 T3 (g:=gPt) 60 [] [dE (Fj B6s A7u) (M7 _)] Af Tryz.func95 (by kernel_rfl)
theorem D5m (w:World):Calls Tryz.prog 65 #[] w fun e w'=>e=.returned C3.val∧Below w.heap.size w w':=
 T3 (g:=gPt) 60 [] [dE (Fj A0x A6t) (M7 _),dE (Fj Zo A5t) (M7 _),dP (Qd (T7 A0x) (T7 Zo) (M7 _) (M7 _)) Ae] Af Tryz.func65 (by kernel_rfl)
theorem Om (w:World):Calls Tryz.prog 65 #[] w fun e w'=>e=.returned (J7 C3.row)∧Below w.heap.size w w':=by
 simp only[Pn.seg];exact D5m w
theorem C9r (p q:Pn) (hp:p.Ok) (hq:q.Ok) (X Y:Operand) (W:World):(do eqGuard .eql 140 X Y p.val q.val;binOp .eql 140 p.val q.val:Sem Value).run Tryz.prog W=.ok (.bool (p.row==q.row)) W:=by
 rw[←Pn.seg,←Pn.seg];have aA:(eqGuard .eql 140 X Y (J7 p.row) (J7 q.row)).run Tryz.prog W=.ok () W:=run_eqGuard_agg (P:=Tryz.prog) W .eql 140 X Y _ _ (by kernel_rfl);have e1:(binOp .eql 140 (J7 p.row) (J7 q.row)).run Tryz.prog W=.ok (.bool (p.row==q.row)) W:=by
  rw[J7,J7,run_eql_struct];exact congrArg (fun r:Result Bool=>r.andThen fun b w'=>Result.ok (Value.bool b) w') (A1f 9996 W p.row q.row hp.row hq.row)
 simp only[Sem.run_bind,aA,Result.andThen_ok,e1]
def E7p {Φ:Fcts} {S:World→Prop} (p q:Pn) (hp:p.Ok) (hq:q.Ok) {b:Bool} (hb:(p.row==q.row)=b):DC Tryz.prog Φ S:=B9l (op:=.eql) (t:=140) (x:=p.val) (y:=q.val) (v:=.bool b) (by rw[←hb];exact C9r p q hp hq) rfl
theorem Nb (p:Pn) (hp:p.Ok) (w:World):Calls Tryz.prog 100 #[p.val] w fun e w'=>e=.returned (Q3 p).val∧Below w.heap.size w w':=by
 unfold Q3;cases h:p.row==J8 20
 ·exact T3 (g:=gPt) 60 (p.av hp) [E7p p Cm hp Dn h] Af Tryz.func100 (by kernel_rfl)
 ·exact T3 (g:=gPt) 60 (p.av hp) [E7p p Cm hp Dn h,dE (Iz 0) rfl,dE (Iz 1) rfl,dP (Qd (Cr 0) (Cr 1) rfl rfl) (Dk rfl rfl)] Af Tryz.func100 (by kernel_rfl)
theorem C2n (p:Pn) (hp:p.Ok) (w:World):Calls Tryz.prog 100 #[J7 p.row] w fun e w'=>e=.returned (J7 (Q3 p).row)∧Below w.heap.size w w':=by
 simp only[Pn.seg];exact Nb p hp w
theorem B5q (p q:Pn) (hp:p.Ok) (hq:q.Ok) (w:World):Calls Tryz.prog 143 #[p.val,q.val] w fun e w'=>e=.returned (B1w p q).val∧Below w.heap.size w w':=
 T3 (g:=gPt) 60 (p.av hp++q.av hq) [dP (Nb p hp) (X3 hp),dP (Nb q hq) (X3 hq),dE Vn O7,dP (A6d (Q3 p) (Q3 q) F0 (X3 hp) (X3 hq) O7) (Db _ _ _)] Af Tryz.func143 (by kernel_rfl)
theorem E2n (p:Pn) (hp:p.Ok) (w:World):Calls Tryz.prog 117 #[p.val] w fun e w'=>e=.returned (Hy p).val∧Below w.heap.size w w':=
 T3 (g:=gPt) 60 (p.av hp) [dP (Nb p hp) (X3 hp),dE (Iz 0) rfl,dE (Dq (Cr 0) (Q3 p).x rfl (X3 hp).x) rfl,dE (Dq (Cr 0) (Q3 p).t rfl (X3 hp).t) rfl] Af Tryz.func117 (by kernel_rfl)
theorem D1l (p:Pn) (hp:p.Ok) (w:World):Calls Tryz.prog 117 #[J7 p.row] w fun e w'=>e=.returned (J7 (Hy p).row)∧Below w.heap.size w w':=by
 simp only[Pn.seg];exact E2n p hp w
end
section
def A8v (q:Pn) (i:List UInt64):List UInt8:=if A1t (P6 q.x i) then (P5 (P6 q.y i)).set 31 (g8 (P5 (P6 q.y i)) 31 ||| 128) else P5 (P6 q.y i)
def C8 (p:Pn):List UInt8:=A8v (Q3 p) (Ws (Q3 p).z)
@[simp, go_sem] theorem K9 (p : Pn) : (C8 p).length = 32 := by unfold C8 A8v; split <;> simp
theorem C0o {p:Pn} (h:A1t (P6 (Q3 p).x (Ws (Q3 p).z))=true):C8 p=(P5 (P6 (Q3 p).y (Ws (Q3 p).z))).set 31 (g8 (P5 (P6 (Q3 p).y (Ws (Q3 p).z))) 31 ||| 128):=by unfold C8 A8v;rw[if_pos h]
theorem C6c {p:Pn} (h:A1t (P6 (Q3 p).x (Ws (Q3 p).z))=false):C8 p=P5 (P6 (Q3 p).y (Ws (Q3 p).z)):=by unfold C8 A8v;rw[if_neg (by rw[h];decide)]
set_option maxRecDepth 100000
theorem B8l (p:Pn) (hp:p.Ok) (w:World):Calls Tryz.prog 67 #[p.val] w fun e w'=>e=.returned (A8 (C8 p))∧Below w.heap.size w w':=by
 let q:=Q3 p
 have hq:q.Ok:=X3 hp;let i:=Ws q.z
 let l:=P5 (P6 q.y i)
 have hl:l.length=32:=Ei _;let pre:DL w:=[dP (Nb p hp) hq,dE (B7x q.z hq.z) rfl,dE (Q6 q.y i hq.y rfl) rfl,D7d (Iv (P6 q.y i) rfl) hl,dE (Q6 q.x i hq.x rfl) rfl]
 cases h:A1t (P6 q.x i)
 ·rw[C6c h,Qs hl];exact T3 (g:=gB) 60 (p.av hp) (pre++[dB (b:=false) (h▸Lo (P6 q.x i) rfl)]) Af Tryz.func67 (by kernel_rfl)
 ·rw[C0o h,D3k hl];exact T3 (g:=gB) 60 (p.av hp) (pre++[dB (b:=true) (h▸Lo (P6 q.x i) rfl),dOr (g8 l 31) 128]) Af Tryz.func67 (by kernel_rfl)
theorem Rh (p:Pn) (hp:p.Ok) (w:World):Calls Tryz.prog 67 #[J7 p.row] w fun e w'=>e=.returned (A8 (C8 p))∧Below w.heap.size w w':=by
 rw[Pn.seg];exact B8l p hp w
end
section
def Ux (b:List UInt8):List UInt8:=b.set 31 (g8 b 31 &&& 127)
theorem A9c {b:List UInt8} (h:b.length=32):(Ux b).length=32:=by unfold Ux;rw[List.length_set];exact h
def Uj (b:List UInt8):List UInt64:=T7 (Ux b)
theorem Xs (b:List UInt8):(Uj b).length=5:=M7 _
def A0f (b:List UInt8):List UInt64:=Gu (P6 (Uj b) (Uj b)) (Cr 1)
def A1c (b:List UInt8):List UInt64:=Gk (P6 (P6 (Uj b) (Uj b)) dee) (Cr 1)
def Vz (b:List UInt8):List UInt64:=Rv (A0f b) (A1c b)
def Kx (b:List UInt8):Bool:=g8 b 31 >>> 7==1
def Fq (b:List UInt8):Bool:=Ij (Ux b)&&(Ex (A0f b) (A1c b) && !(Kx b&&P5 (Vz b)==z8 32))
def Ah (b:List UInt8):Pn:=if Fq b then Bs (if Kx b then Gu (Cr 0) (Vz b) else Vz b) (Uj b) else Cm
def Yb (b:List UInt8):Int:=if Fq b then 0 else 50
theorem Iq (b:List UInt8):(Ah b).Ok:=by
 unfold Ah;split
 ·refine Dk ?_ (Xs b);split
  ·rfl
  ·exact Uz _ _
 ·exact Dn
theorem Yl {b:List UInt8} (h:Fq b=false):Ah b=Cm∧Yb b=50:=by unfold Ah Yb;rw[if_neg (by rw[h];decide),if_neg (by rw[h];decide)];exact ⟨rfl,rfl⟩
theorem B3c {b:List UInt8} (h:Ij (Ux b)=false):Ah b=Cm∧Yb b=50:=Yl (by unfold Fq;rw[h];rfl)
theorem B0l {b:List UInt8} (h:Ex (A0f b) (A1c b)=false):Ah b=Cm∧Yb b=50:=Yl (by unfold Fq;rw[h];simp)
theorem C5h {b:List UInt8} (h:Kx b=true) (h2:(P5 (Vz b)==z8 32)=true):Ah b=Cm∧Yb b=50:=Yl (by unfold Fq;rw[h,h2];simp)
theorem C5v {b:List UInt8} (h0:Ij (Ux b)=true) (h1:Ex (A0f b) (A1c b)=true) (h:Kx b=false):Ah b=Bs (Vz b) (Uj b)∧Yb b=0:=by
 have e:Fq b=true:=by unfold Fq;rw[h0,h1,h];rfl
 unfold Ah Yb;rw[if_pos e,if_pos e,if_neg (by rw[h];decide)];exact ⟨rfl,rfl⟩
theorem D0f {b:List UInt8} (h0:Ij (Ux b)=true) (h1:Ex (A0f b) (A1c b)=true) (h:Kx b=true) (h2:(P5 (Vz b)==z8 32)=false):Ah b=Bs (Gu (Cr 0) (Vz b)) (Uj b)∧Yb b=0:=by
 have e:Fq b=true:=by unfold Fq;rw[h0,h1,h,h2];rfl
 unfold Ah Yb;rw[if_pos e,if_pos e,if_pos h];exact ⟨rfl,rfl⟩
set_option maxRecDepth 100000
theorem D7a {b:List UInt8} (hb:b.length=32):A8 (Ux b)=b31 b (g8 b 31 &&& 127):=D3k hb _
theorem B4z (b:List UInt8) (hb:b.length=32) (w:World):Calls Tryz.prog 113 #[A8 b] w fun e w'=>e=.returned (.tuple #[J7 (Ah b).row,.int .i64 (Yb b)])∧Below w.heap.size w w':=by
 rw[Pn.seg,Qs hb];let y:=Uj b
 have hy:y.length=5:=Xs b;let ρ:=[av8 (b.take 31) 31 (by simp[hb]),av8 [g8 b 31] 1 rfl]
 have aB:∀W,Calls Tryz.prog 125 #[b31 b (g8 b 31 &&& 127)] W fun e W'=>e=.returned (.tuple #[J7 y,.bool (Ij (Ux b))])∧Below W.heap.size W W':=by rw[←D7a hb];exact B2l (Ux b) (A9c hb)
 have aA:=C0v (A0f b) (A1c b) rfl rfl;let mid:DL w:=[dE (Q6 y y hy hy) rfl,dE (Iz 1) rfl,dE (Dq (P6 y y) (Cr 1) rfl rfl) rfl,dE D0o A2u,dE (Q6 (P6 y y) dee rfl A2u) rfl,dE (Ey (P6 (P6 y y) dee) (Cr 1) rfl rfl) rfl]
 let x:=Vz b
 have hx:x.length=5:=Uz _ _;cases ho:Kx b
 ·let pre:DL w:=[E6l (g8 b 31) .u64 7 (by decide),E0t (g8 b 31 >>> 7) 1 ho,E4y (g8 b 31) 127]
  cases h0:Ij (Ux b)
  ·obtain⟨e1,e2⟩:=B3c h0;rw[e1,e2];exact T3 (g:=gB) 60 ρ (pre++[dEB (b:=false) (h0▸aB) hy]) Af Tryz.func113 (by kernel_rfl)
  ·cases h1:Ex (A0f b) (A1c b)
   ·obtain⟨e1,e2⟩:=B0l h1;rw[e1,e2];exact T3 (g:=gB) 60 ρ (pre++(dEB (b:=true) (h0▸aB) hy::(mid++[dEB (b:=false) (h1▸aA) hx]))) Af Tryz.func113 (by kernel_rfl)
   ·obtain⟨e1,e2⟩:=C5v h0 h1 ho;rw[e1,e2];exact T3 (g:=gB) 60 ρ (pre++(dEB (b:=true) (h0▸aB) hy::(mid++[dEB (b:=true) (h1▸aA) hx,dP (Qd x y hx hy) (Dk hx hy)]))) Af Tryz.func113 (by kernel_rfl)
 ·let pre:DL w:=[E6l (g8 b 31) .u64 7 (by decide),E0t (g8 b 31 >>> 7) 1 ho,E4y (g8 b 31) 127]
  cases h0:Ij (Ux b)
  ·obtain⟨e1,e2⟩:=B3c h0;rw[e1,e2];exact T3 (g:=gB) 60 ρ (pre++[dEB (b:=false) (h0▸aB) hy]) Af Tryz.func113 (by kernel_rfl)
  ·cases h1:Ex (A0f b) (A1c b)
   ·obtain⟨e1,e2⟩:=B0l h1;rw[e1,e2];exact T3 (g:=gB) 60 ρ (pre++(dEB (b:=true) (h0▸aB) hy::(mid++[dEB (b:=false) (h1▸aA) hx]))) Af Tryz.func113 (by kernel_rfl)
   ·cases h2:P5 x==z8 32
    ·obtain⟨e1,e2⟩:=D0f h0 h1 ho h2;rw[e1,e2];exact T3 (g:=gB) 60 ρ (pre++(dEB (b:=true) (h0▸aB) hy::(mid++[dEB (b:=true) (h1▸aA) hx,D7d (Iv x hx) (Ei _),D3r (P5 x) (z8 32) (Ei _) rfl h2,dE (Iz 0) rfl,dE (Dq (Cr 0) x rfl hx) rfl,dP (Qd (Gu (Cr 0) x) y rfl hy) (Dk rfl hy)]))) Af Tryz.func113 (by kernel_rfl)
    ·obtain⟨e1,e2⟩:=C5h ho h2;rw[e1,e2];exact T3 (g:=gB) 60 ρ (pre++(dEB (b:=true) (h0▸aB) hy::(mid++[dEB (b:=true) (h1▸aA) hx,D7d (Iv x hx) (Ei _),D3r (P5 x) (z8 32) (Ei _) rfl h2]))) Af Tryz.func113 (by kernel_rfl)
end
section
def Pl (ps:List Pn):List UInt64:=(ps.map Pn.row).flatten
def Kj (ps:List Pn):Prop:=∀p∈ps,p.Ok
theorem X5:∀ {ps:List Pn},Kj ps→(Pl ps).length=ps.length*20
 | [],_=>rfl
 | p::ps,h=>by
  have h1:=X5 (ps:=ps) fun q hq=>h q (by simp[hq]);have h2:=(h p (by simp)).row;show (p.row++Pl ps).length=_;rw[List.length_append,h1,h2,List.length_cons];omega
theorem C8o:∀ {ps:List Pn} (i:Nat),Kj ps→i<ps.length→((Pl ps).drop (i*20)).take 20=(ps.getD i Cm).row
 | p::ps,0,h,_=>by
  have h2:=(h p (by simp)).row;show (p.row++Pl ps).take 20=p.row;rw[List.take_append_of_le_length (by omega),List.take_of_length_le (by omega)]
 | p::ps,i+1,h,hi=>by
  have h2:=(h p (by simp)).row;have h1:=C8o (ps:=ps) i (fun q hq=>h q (by simp[hq])) (by simpa using hi);show ((p.row++Pl ps).drop ((i+1)*20)).take 20=_;rw[show (i+1)*20=p.row.length+i*20 by omega,List.drop_append,List.drop_eq_nil_of_le (by omega),List.nil_append,Nat.add_sub_cancel_left,h1];rfl
theorem C6e:∀ {ps:List Pn} (i:Nat) {q:Pn},Kj ps→q.Ok→i<ps.length→(Pl ps).take (i*20)++q.row++(Pl ps).drop (i*20+20)=Pl (ps.set i q)
 | p::ps,0,q,h,hq,_=>by
  have h2:=(h p (by simp)).row;show (p.row++Pl ps).take 0++q.row++(p.row++Pl ps).drop (0+20)=q.row++Pl ps;rw[show 0+20=p.row.length+0 by omega,List.drop_append];simp
 | p::ps,i+1,q,h,hq,hi=>by
  have h2:=(h p (by simp)).row;have h1:=C6e (ps:=ps) i (fun q hq=>h q (by simp[hq])) hq (by simpa using hi);show (p.row++Pl ps).take ((i+1)*20)++q.row++(p.row++Pl ps).drop ((i+1)*20+20)=p.row++Pl (ps.set i q);rw[←h1,show (i+1)*20+20=p.row.length+(i*20+20) by omega,List.drop_append,List.drop_eq_nil_of_le (by omega),List.nil_append,Nat.add_sub_cancel_left,show (i+1)*20=p.row.length+i*20 by omega,List.take_append,List.take_of_length_le (by omega),Nat.add_sub_cancel_left];simp
theorem Kj.getD {ps:List Pn} (h:Kj ps) (i:Nat):(ps.getD i Cm).Ok:=by
 by_cases hi:i<ps.length
 ·rw[List.getD_eq_getElem?_getD,List.getElem?_eq_getElem hi];exact h _ (List.getElem_mem hi)
 ·rw[List.getD_eq_getElem?_getD,List.getElem?_eq_none (by omega)];exact Dn
def Q4 (ps:List Pn) (i:Nat):Pn:=ps.getD i Cm
theorem Kj.at {ps:List Pn} (h:Kj ps) (i:Nat):(Q4 ps i).Ok:=h.getD i
section
variable {w : World} {g : Nat} {t : TypeId} {ps : List Pn}
theorem Bk.plAt (K:Bk w g t (C7 (Pl ps))) (h:Kj ps) {i:Nat} (hi:i<ps.length):E5 w ⟨g,i*20,none⟩ 20=some (C7 (Q4 ps i).row):=by
 show _=some (C7 (ps.getD i Cm).row);have hl:=X5 h;rw[K.rowMid (i*20) 20 (by simp[hl];omega),←C8o i h hi];simp[C7]
theorem Bk.plCan (K:Bk w g t (C7 (Pl ps))) (h:Kj ps) {i:Nat} (hi:i<ps.length):E8 w ⟨g,i*20,none⟩ 20=true:=by
 have hl:=X5 h;exact K.can (by simp[hl];omega)
theorem Bk.plPut (K:Bk w g t (C7 (Pl ps))) (h:Kj ps) {i:Nat} (hi:i<ps.length) {q:Pn} (hq:q.Ok):Bk (C9 w ⟨g,i*20,none⟩ (C7 q.row)) g t (C7 (Pl (ps.set i q))):=by
 have hl:=X5 h;have h1:=K.put (o:=i*20) (vs:=C7 q.row) (by simp[hl,hq.row];omega);rw[←C6e i h hq hi];simpa [C7,hq.row] using h1
end
def Gj (f:Nat→Pn) (n m:Nat):List Pn:=(List.range n).map fun i=>if i<m then f i else Cm
@[simp] theorem Xy (f : Nat → Pn) (n m : Nat) : (Gj f n m).length = n := by simp [Gj]
theorem Ke {f:Nat→Pn} (hf:∀i,(f i).Ok) (n m:Nat):Kj (Gj f n m):=fun p hp=>by
 obtain⟨i,_,rfl⟩:=List.mem_map.1 hp;split
 ·exact hf i
 ·exact Dn
theorem C4f {f:Nat→Pn} {n m i:Nat} (hi:i<n):(Gj f n m).getD i Cm=if i<m then f i else Cm:=by
 rw[List.getD_eq_getElem?_getD];simp[Gj,hi]
theorem B7t {f:Nat→Pn} {n m i:Nat} (hi:i<n):Q4 (Gj f n m) i=if i<m then f i else Cm:=C4f hi
theorem C6f {f:Nat→Pn} {n m:Nat} (hm:m<n) {q:Pn} (hq:q=f m):(Gj f n m).set m q=Gj f n (m+1):=by
 subst hq;apply List.ext_getElem
 ·simp
 ·intro i h1 h2;simp only[Gj,List.getElem_set,List.getElem_map,List.getElem_range];by_cases e:m=i
  ·subst e;simp
  ·rw[if_neg e];by_cases h:i<m
   ·rw[if_pos h,if_pos (by omega)]
   ·rw[if_neg h,if_neg (by omega)]
theorem D6k (f:Nat→Pn):Pl (Gj f 32 0)=J8 640:=by kernel_rfl
def Um (n:List UInt8) (i:Nat):UInt8:=g8 n (i / 2) >>> UInt8.ofNat (4*(i % 2)) &&& 15
theorem B4m (n:List UInt8) (i:Nat):(Um n i).toNat<16:=by
 unfold Um;rw[UInt8.toNat_and];exact Nat.lt_of_le_of_lt Nat.and_le_right (by decide)
theorem C2h (n:List UInt8) (hn:n.length=32) (i:Nat) (hi:i<64) (w:World):Calls Tryz.prog 99 #[A8 n,.int .i64 (i:Int)] w fun e w'=>e=.returned (.int .u8 (n8 (Um n i)))∧Below w.heap.size w w':=by
 have aB:(i:Int) / 2=((i / 2:Nat):Int):=by omega
 have aC:(i:Int) % 2=((i % 2:Nat):Int):=by omega
 have aD:i / 2<32:=by omega
 have h2:i % 2<2:=by omega
 have k0:=(Bk.new w 23 (c8 n)).at_ (Fm (l:=n) (i:=i / 2) (by omega));obtain⟨D,hD⟩:∃d,d=Um n i:=⟨_,rfl⟩;have aA:D=g8 n (i / 2) >>> UInt8.ofNat (4*(i % 2)) &&& 15:=hD;have HD:=Lib.hid hD;rw[←hD];have HE:=Lib.hid aA;clear hD aA;have hB:Below w.heap.size w (w.alloc (Obj.cells (c8 n).toArray 23)):=(Below.refl _ _).alloc (Nat.le_refl _) _;generalize i / 2=q at *;generalize i % 2=r at *;obtain⟨s,hs⟩:∃s,s=4*r:=⟨_,rfl⟩;have h4:4*(r:Int)=(s:Int):=by omega
 have aE:s<8:=by omega
 have HS:=Lib.hid hs;clear hs;go_enter Tryz.func99,Tryz.ntmps99;go_wp2_with fail;go_ret;exact ⟨by rw[HE.out,HS.out];rfl,hB⟩
end
section
def dg (n:List UInt8) (i:Nat):Nat:=(Um n i).toNat
theorem A8q (n:List UInt8) (i:Nat):dg n i<16:=B4m n i
theorem Tw (n:List UInt8) (hn:n.length=32) (i:Nat) (hi:i<64) (w:World):Calls Tryz.prog 99 #[A8 n,.int .i64 (i:Int)] w fun e w'=>e=.returned (.int .u8 ((dg n i:Nat):Int))∧Below w.heap.size w w':=C2h n hn i hi w
def B3r (p:Pn) (k:List UInt64):Nat→Pn
 | 0=>Q3 Cm
 | 1=>Q3 p
 | i+2=>X6 (B3r p k (i+1)) (Q3 p) k
theorem A6u {p:Pn} (hp:p.Ok) (k:List UInt64):∀i,(B3r p k i).Ok
 | 0=>X3 Dn
 | 1=>X3 hp
 | i+2=>Db _ _ _
def J1 (p:Pn) (k:List UInt64):List Pn:=Gj (B3r p k) 16 16
theorem Y7 {p:Pn} (hp:p.Ok) (k:List UInt64):Kj (J1 p k):=Ke (A6u hp k) 16 16
@[simp, go_sem] theorem D1d (p : Pn) (k : List UInt64) : (J1 p k).length = 16 := Xy _ _ _
theorem Vu {p:Pn} {k:List UInt64} {i:Nat} (hi:i<16):Q4 (J1 p k) i=B3r p k i:=by
 unfold J1;rw[B7t hi,if_pos hi]
def plC:List Pn→List Value
 | []=>[]
 | [q]=>C7 q.x++(C7 q.y++(C7 q.z++C7 q.t))
 | q::l=>C7 q.x++(C7 q.y++(C7 q.z++(C7 q.t++plC l)))
theorem C4u:∀l:List Pn,C7 (Pl l)=plC l
 | []=>rfl
 | [q]=>by simp[plC,Pl,Pn.row,ptl,C7]
 | q::r::l=>by
  have ih:=C4u (r::l);have h:C7 (Pl (q::r::l))=C7 q.row++C7 (Pl (r::l)):=by simp[Pl,C7]
  rw[h,ih];simp[plC,Pn.row,ptl,C7]
set_option maxRecDepth 100000
theorem Zi (p:Pn) (k:List UInt64) (hp:p.Ok) (hk:k.length=5) (w:World):Calls Tryz.prog 96 #[J7 p.row,J7 k] w fun e w'=>e=.returned (J7 (Pl (J1 p k)))∧Below w.heap.size w w':=by
 rw[Pn.seg,show J7 (Pl (J1 p k))=.agg (plC (J1 p k)).toArray by rw[J7,C4u]];exact T3 (g:=gPt) 100 (p.av hp++[Gl k 5 hk]) ([dP (Nb Cm Dn) (X3 Dn),dP (Nb p hp) (X3 hp)]++(List.range 14).map fun i=>dP (A6d (B3r p k (i+1)) (Q3 p) k (A6u hp k _) (X3 hp) hk) (A6u hp k (i+2))) Af Tryz.func96 (by kernel_rfl)
end
end Go.Proofs.YtlegpkdighoflaaGreat
