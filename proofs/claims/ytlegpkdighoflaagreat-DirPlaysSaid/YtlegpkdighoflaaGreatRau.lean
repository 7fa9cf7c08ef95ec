/- A part of the proof of DirPlays. -/
import Derived.Test.YtlegpkdighoflaaGreatRat
set_option linter.unusedVariables false
set_option linter.unusedSimpArgs false
set_option maxRecDepth 100000
set_option maxHeartbeats 40000000
namespace Go.Proofs.YtlegpkdighoflaaGreat
open Go Go.RowKit Sh
section
def gPt (t:TypeId):Option (List Nat):=if t=140 then some [5,5,5,5] else none
def Pn.val (p:Pn):Value:=.agg (C9 p.x++(C9 p.y++(C9 p.z++C9 p.t))).toArray
theorem Pn.seg (p:Pn):H8 p.row=p.val:=by
 unfold H8 Pn.val Pn.row ptl C9;simp
def Pn.av (p:Pn) (h:p.Ok):List Av:=[Ir p.x 5 h.x,Ir p.y 5 h.y,Ir p.z 5 h.z,Ir p.t 5 h.t]
section
variable {f : FuncId} {args : Array Value}
def dP {p:Pn} (h:∀W,Calls Tryz.prog f args W fun e W'=>e=.returned p.val∧Below W.heap.size W W') (hp:p.Ok):DC Tryz.prog:=⟨.call f args p.val,h,p.av hp⟩
end
theorem size_u8 (w:World):(sizeOf 5).run Tryz.prog w=.ok 1 w:=by
 have hi:(Tryz.prog.info? 5).map (·.size)=some 1:=by kernel_rfl
 cases hq:Tryz.prog.info? 5 with
 | none=>simp[hq]at hi
 | some j=>simp[hq]at hi;simp[sizeOf,typeInfo,hq,hi]
theorem C1b (l m:List UInt8) (hl:l.length=32) (hm:m.length=32) (X Y:Operand) (W:World):(do eqGuard .eql 23 X Y (A8 l) (A8 m);binOp .eql 23 (A8 l) (A8 m):Sem Value).run Tryz.prog W=.ok (.bool (l==m)) W:=by
 have aA:(eqGuard .eql 23 X Y (A8 l) (A8 m)).run Tryz.prog W=.ok () W:=run_eqGuard_agg (P:=Tryz.prog) W .eql 23 X Y _ _ (by kernel_rfl);have e1:(binOp .eql 23 (A8 l) (A8 m)).run Tryz.prog W=.ok (.bool (l==m)) W:=run_eql_bytes (P:=Tryz.prog) W 23 5 32 Tryz.underlying23 Tryz.underlying5 size_u8 l m hl hm;simp only[Sem.run_bind,aA,Result.andThen_ok,e1]
theorem D6s (l m:List UInt8) (hl:l.length=32) (hm:m.length=32) (X Y:Operand) (W:World):(do eqGuard .neq 23 X Y (A8 l) (A8 m);binOp .neq 23 (A8 l) (A8 m):Sem Value).run Tryz.prog W=.ok (.bool (!(l==m))) W:=by
 have aA:(eqGuard .neq 23 X Y (A8 l) (A8 m)).run Tryz.prog W=.ok () W:=run_eqGuard_agg (P:=Tryz.prog) W .neq 23 X Y _ _ (by kernel_rfl);have e1:(binOp .neq 23 (A8 l) (A8 m)).run Tryz.prog W=.ok (.bool (!(l==m))) W:=by rw[A8,A8,run_neq_struct];exact congrArg (fun r:Result Bool=>r.andThen fun b w'=>Result.ok (Value.bool (!b)) w') (run_equalIn_bytes (P:=Tryz.prog) W 9998 23 5 32 Tryz.underlying23 Tryz.underlying5 size_u8 l m hl hm)
 simp only[Sem.run_bind,aA,Result.andThen_ok,e1]
def dEq (l m:List UInt8) (hl:l.length=32) (hm:m.length=32) {b:Bool} (hb:(l==m)=b):DC Tryz.prog:=⟨.bin .eql 23 (A8 l) (A8 m) (.bool b),by rw[←hb];exact C1b l m hl hm,[av1 (.bool b) rfl]⟩
def dNe (l m:List UInt8) (hl:l.length=32) (hm:m.length=32) {b:Bool} (hb:(l==m)=b):DC Tryz.prog:=⟨.bin .neq 23 (A8 l) (A8 m) (.bool (!b)),by rw[←hb];exact D6s l m hl hm,[av1 (.bool (!b)) rfl]⟩
def dO8 {op:BinOp} {x y v:Value} (h:∀W,(binOp op 5 x y).run Tryz.prog W=.ok v W) (hg:∀(X Y:Operand) W,(eqGuard op 5 X Y x y).run Tryz.prog W=.ok () W) (ho:v.oneCell'=true):DC Tryz.prog:=
 ⟨.bin op 5 x y v,fun X Y W=>by simp only[Sem.run_bind,hg X Y W,Result.andThen_ok,h W],[av1 v ho]⟩
def dOr (x y:UInt8):DC Tryz.prog:=dO8 (op:=.or) (x:=.int .u8 (n8 x)) (y:=.int .u8 (n8 y)) (v:=.int .u8 (n8 (x ||| y))) (fun W=>by rw[show binOp .or 5 (.int .u8 (n8 x)) (.int .u8 (n8 y))=Op.intBits .or .u8 (n8 x) (n8 y) from rfl,or8];rfl) (fun _ _ _=>rfl) rfl
def F2r (x y:UInt8):DC Tryz.prog:=dO8 (op:=.and) (x:=.int .u8 (n8 x)) (y:=.int .u8 (n8 y)) (v:=.int .u8 (n8 (x &&& y))) (fun W=>by rw[show binOp .and 5 (.int .u8 (n8 x)) (.int .u8 (n8 y))=Op.intBits .and .u8 (n8 x) (n8 y) from rfl,C8f];rfl) (fun _ _ _=>rfl) rfl
def F0z (x:UInt8) (k:IntKind) (s:Nat) (hs:s<8):DC Tryz.prog:=dO8 (op:=.shr) (x:=.int .u8 (n8 x)) (y:=.int k (s:Int)) (v:=.int .u8 (n8 (x >>> UInt8.ofNat s))) (fun W=>by rw[show binOp .shr 5 (.int .u8 (n8 x)) (.int k (s:Int))=Op.shift .shr .u8 (n8 x) k (s:Int) from rfl,Wv x k s hs];rfl) (fun _ _ _=>rfl) rfl
def F1b (x y:UInt8) {b:Bool} (hb:(x==y)=b):DC Tryz.prog:=dO8 (op:=.eql) (x:=.int .u8 (n8 x)) (y:=.int .u8 (n8 y)) (v:=.bool b) (fun W=>by rw[show binOp .eql 5 (.int .u8 (n8 x)) (.int .u8 (n8 y))=pure (.bool (n8 x==n8 y)) from rfl,Ov,hb];rfl) (fun _ _ _=>rfl) rfl
def b31 (l:List UInt8) (x:UInt8):Value:=.agg (c8 (l.take 31)++c8 [x]).toArray
theorem Tx {l:List UInt8} (hl:l.length=32):A8 l=b31 l (Sh.g8 l 31):=by
 have h1:l=l.take 31++[Sh.g8 l 31]:=by
  conv=>lhs;rw[←List.take_append_drop 31 l]
  congr 1;rw[List.drop_eq_getElem_cons (by omega),List.drop_eq_nil_of_le (by omega)];simp[Sh.g8,List.getD_eq_getElem?_getD,hl]
 unfold A8 b31;conv=>lhs;rw[h1]
 simp[c8]
theorem E0g {l:List UInt8} (hl:l.length=32) (x:UInt8):A8 (l.set 31 x)=b31 l x:=by
 rw[Tx (by simpa using hl)];unfold b31;rw[List.take_set_of_le (by omega)];simp[Sh.g8,List.getD_eq_getElem?_getD,hl]
def E1g {f:FuncId} {args:Array Value} {l:List UInt8} (h:∀W,Calls Tryz.prog f args W fun e W'=>e=.returned (A8 l)∧Below W.heap.size W W') (hl:l.length=32):DC Tryz.prog:=
 ⟨.call f args (b31 l (Sh.g8 l 31)),by rw[←Tx hl];exact h,[av8 (l.take 31) 31 (by simp[hl]),av8 [Sh.g8 l 31] 1 rfl]⟩
def D9t (l m:List UInt8) (hl:l.length=32) (hm:m.length=32) {b:Bool} (hb:(l==m)=b):DC Tryz.prog:=⟨.bin .eql 23 (b31 l (Sh.g8 l 31)) (b31 m (Sh.g8 m 31)) (.bool b),by rw[←hb,←Tx hl,←Tx hm];exact C1b l m hl hm,[av1 (.bool b) rfl]⟩
def gB (t:TypeId):Option (List Nat):=if t=23 then some [31,1] else gPt t
end
section
set_option maxRecDepth 100000
theorem B5r (a:List UInt64) (ha:a.length=5) (w:World):Calls Tryz.prog 129 #[H8 a] w fun e w'=>e=.returned (.tuple #[H8 (Vd a),H8 (Kj a)])∧Below w.heap.size w w':=by
 let sq:=fun (n:Nat) (hn:n≤1000000) (x:List UInt64) (hx:x.length=5)=>dE (Ru x hx n hn) (A0p hx n)
 let mul:=fun (x y:List UInt64) (hx:x.length=5) (hy:y.length=5)=>dE (U3 x y hx hy) rfl
 let u:=Q7 (Hw 20 (f20 a)) (f20 a)
 let v:=Q7 (Hw 100 (A6h a)) (A6h a)
 exact U7 (g:=gPt) 60 [Ir a 5 ha]
  [dE (A1t a ha) rfl,sq 2 (by decide) (fsq a) rfl,mul (Hw 2 (fsq a)) a rfl ha,mul (A4g a) (fsq a) rfl rfl,dE (A1t (Kj a) rfl) rfl,mul (fsq (Kj a)) (A4g a) rfl rfl,
   sq 5 (by decide) (f5 a) rfl,mul (Hw 5 (f5 a)) (f5 a) rfl rfl,sq 10 (by decide) (f10 a) rfl,mul (Hw 10 (f10 a)) (f10 a) rfl rfl,sq 20 (by decide) (f20 a) rfl,mul (Hw 20 (f20 a)) (f20 a) rfl rfl,
   sq 10 (by decide) u rfl,mul (Hw 10 u) (f10 a) rfl rfl,sq 50 (by decide) (f50 a) rfl,mul (Hw 50 (f50 a)) (f50 a) rfl rfl,sq 100 (by decide) (A6h a) rfl,mul (Hw 100 (A6h a)) (A6h a) rfl rfl,sq 50 (by decide) v rfl,mul (Hw 50 v) (f50 a) rfl rfl]
  Bq Tryz.func129 (by kernel_rfl) w
theorem C2t (a:List UInt64) (ha:a.length=5) (w:World):Calls Tryz.prog 101 #[H8 a] w fun e w'=>e=.returned (H8 (Yt a))∧Below w.heap.size w w':=
 U7 (g:=gPt) 60 [Ir a 5 ha] [dEE (B5r a ha) rfl rfl,dE (Ru (Vd a) rfl 5 (by decide)) rfl,dE (U3 (Hw 5 (Vd a)) (Kj a) rfl rfl) rfl] Bq Tryz.func101 (by kernel_rfl) w
end
section
def A0e (u v:List UInt64):List UInt64:=Q7 u (Yt v)
def Wi (u v:List UInt64):List UInt64:=Q7 (Hw 2 (Vd (A0e u v))) (fsq (A0e u v))
def A8y (x w:List UInt64):Bool:=Q3 (Q7 x x)==Q3 w
def Lk (u v:List UInt64):List UInt64:=if A8y (Wi u v) (A0e u v) then Wi u v else Q7 (Wi u v) Ih
def B8r (x:List UInt64):List UInt64:=if A2v x then Jf (M1 5) x else x
def Gs (u v:List UInt64):Bool:=!(Q3 v==z8 32)&&A8y (Lk u v) (A0e u v)
def Uz (u v:List UInt64):List UInt64:=if Gs u v then B8r (Lk u v) else M1 5
@[simp, go_sem] theorem D8l (u v : List UInt64) : (A0e u v).length = 5 := rfl
@[simp, go_sem] theorem D4k (u v : List UInt64) : (Wi u v).length = 5 := rfl
theorem A6i (u v:List UInt64):(Lk u v).length=5:=by unfold Lk;split<;>rfl
theorem Xh (u v:List UInt64):(Uz u v).length=5:=by
 unfold Uz B8r;split
 ·split
  ·rfl
  ·exact A6i u v
 ·rfl
theorem C1x {u v:List UInt64} (h:Gs u v=false):Uz u v=M1 5:=by unfold Uz;rw[if_neg (by rw[h];decide)]
theorem B5t {u v:List UInt64} (h:Gs u v=true):Uz u v=B8r (Lk u v):=by unfold Uz;rw[if_pos h]
set_option maxRecDepth 100000
theorem C7g (u v:List UInt64) (hu:u.length=5) (hv:v.length=5) (w:World):Calls Tryz.prog 141 #[H8 u,H8 v] w fun e w'=>e=.returned (.tuple #[H8 (Uz u v),.bool (Gs u v)])∧Below w.heap.size w w':=by
 have hh:∀x,(Q3 x).length=32:=Gk;let hash:=fun (x:List UInt64) (hx:x.length=5)=>dH (Le x hx) (hh x)
 let mul:=fun (x y:List UInt64) (hx:x.length=5) (hy:y.length=5)=>dE (U3 x y hx hy) rfl
 let W:=A0e u v
 let X:=Wi u v
 cases h1:Q3 v==z8 32
 ·let pre:=[hash v hv,dEq (Q3 v) (z8 32) (hh v) rfl h1,dE (C2t v hv) rfl,mul u (Yt v) hu rfl,dEE (B5r W rfl) rfl rfl,dE (Ru (Vd W) rfl 2 (by decide)) rfl,dE (A1t W rfl) rfl,mul (Hw 2 (Vd W)) (fsq W) rfl rfl,mul X X rfl rfl,hash (Q7 X X) rfl,hash W rfl]
  cases h2:Q3 (Q7 X X)==Q3 W
  ·let Y:=Q7 X Ih
   have e2:Lk u v=Y:=by unfold Lk A8y;rw[h2];rfl
   let mid:=[dNe (Q3 (Q7 X X)) (Q3 W) (hh _) (hh _) h2,dE A9a rfl,mul X Ih rfl rfl,mul Y Y rfl rfl,hash (Q7 Y Y) rfl,hash W rfl]
   cases h3:Q3 (Q7 Y Y)==Q3 W
   ·have hB:Gs u v=false:=by unfold Gs A8y;rw[e2,h1,h3];rfl
    rw[C1x hB,hB];exact U7 (g:=gPt) 60 [Ir u 5 hu,Ir v 5 hv] (pre++(mid++[dNe (Q3 (Q7 Y Y)) (Q3 W) (hh _) (hh _) h3])) Bq Tryz.func141 (by kernel_rfl) w
   ·have hB:Gs u v=true:=by unfold Gs A8y;rw[e2,h1,h3];rfl
    rw[B5t hB,hB,e2];unfold B8r;cases h4:A2v Y
    ·exact U7 (g:=gPt) 60 [Ir u 5 hu,Ir v 5 hv] (pre++(mid++[dNe (Q3 (Q7 Y Y)) (Q3 W) (hh _) (hh _) h3,dB (b:=false) (h4▸Nl Y rfl)])) Bq Tryz.func141 (by kernel_rfl) w
    ·exact U7 (g:=gPt) 60 [Ir u 5 hu,Ir v 5 hv] (pre++(mid++[dNe (Q3 (Q7 Y Y)) (Q3 W) (hh _) (hh _) h3,dB (b:=true) (h4▸Nl Y rfl),dE (Fd (M1 5) Y rfl rfl) rfl])) Bq Tryz.func141 (by kernel_rfl) w
  ·have e2:Lk u v=X:=by unfold Lk A8y;rw[h2];rfl
   let mid:=[dNe (Q3 (Q7 X X)) (Q3 W) (hh _) (hh _) h2,mul X X rfl rfl,hash (Q7 X X) rfl,hash W rfl,dNe (Q3 (Q7 X X)) (Q3 W) (hh _) (hh _) h2]
   have hB:Gs u v=true:=by unfold Gs A8y;rw[e2,h1,h2];rfl
   rw[B5t hB,hB,e2];unfold B8r;cases h4:A2v X
   ·exact U7 (g:=gPt) 60 [Ir u 5 hu,Ir v 5 hv] (pre++(mid++[dB (b:=false) (h4▸Nl X rfl)])) Bq Tryz.func141 (by kernel_rfl) w
   ·exact U7 (g:=gPt) 60 [Ir u 5 hu,Ir v 5 hv] (pre++(mid++[dB (b:=true) (h4▸Nl X rfl),dE (Fd (M1 5) X rfl rfl) rfl])) Bq Tryz.func141 (by kernel_rfl) w
 ·have hB:Gs u v=false:=by unfold Gs;rw[h1];rfl
  rw[C1x hB,hB];exact U7 (g:=gPt) 60 [Ir u 5 hu,Ir v 5 hv] [hash v hv,dEq (Q3 v) (z8 32) (hh v) rfl h1] Bq Tryz.func141 (by kernel_rfl) w
end
section
def Ac (p q:Pn) (k:List UInt64):Pn:=
 let a:=Q7 (Jf p.y p.x) (Jf q.y q.x)
 let b:=Q7 (Iw p.y p.x) (Iw q.y q.x)
 let c:=Q7 (Q7 p.t k) q.t
 let d:=Q7 p.z q.z
 let d2:=Iw d d
 let e:=Jf b a
 let f:=Jf d2 c
 let g:=Iw d2 c
 let h:=Iw b a
 ⟨Q7 e f,Q7 g h,Q7 f g,Q7 e h⟩
theorem Ej (p q:Pn) (k:List UInt64):(Ac p q k).Ok:=⟨rfl,rfl,rfl,rfl⟩
set_option maxRecDepth 100000
theorem B0t (p q:Pn) (k:List UInt64) (hp:p.Ok) (hq:q.Ok) (hk:k.length=5) (w:World):Calls Tryz.prog 98 #[p.val,q.val,H8 k] w fun e w'=>e=.returned (Ac p q k).val∧Below w.heap.size w w':=by
 let a:=Q7 (Jf p.y p.x) (Jf q.y q.x)
 let b:=Q7 (Iw p.y p.x) (Iw q.y q.x)
 let c:=Q7 (Q7 p.t k) q.t
 let d:=Iw (Q7 p.z q.z) (Q7 p.z q.z)
 exact U7 (g:=gPt) 60 (p.av hp++(q.av hq++[Ir k 5 hk]))
  [dE (Fd p.y p.x hp.y hp.x) rfl,dE (Fd q.y q.x hq.y hq.x) rfl,dE (U3 (Jf p.y p.x) (Jf q.y q.x) rfl rfl) rfl,
   dE (Gr p.y p.x hp.y hp.x) rfl,dE (Gr q.y q.x hq.y hq.x) rfl,dE (U3 (Iw p.y p.x) (Iw q.y q.x) rfl rfl) rfl,
   dE (U3 p.t k hp.t hk) rfl,dE (U3 (Q7 p.t k) q.t rfl hq.t) rfl,
   dE (U3 p.z q.z hp.z hq.z) rfl,dE (Gr (Q7 p.z q.z) (Q7 p.z q.z) rfl rfl) rfl,
   dE (Fd b a rfl rfl) rfl,dE (Fd d c rfl rfl) rfl,dE (Gr d c rfl rfl) rfl,dE (Gr b a rfl rfl) rfl,
   dE (U3 (Jf b a) (Jf d c) rfl rfl) rfl,dE (U3 (Iw d c) (Iw b a) rfl rfl) rfl,dE (U3 (Jf d c) (Iw d c) rfl rfl) rfl,dE (U3 (Jf b a) (Iw b a) rfl rfl) rfl]
  Bq Tryz.func98 (by kernel_rfl) w
theorem Uc (p q:Pn) (k:List UInt64) (hp:p.Ok) (hq:q.Ok) (hk:k.length=5) (w:World):Calls Tryz.prog 98 #[H8 p.row,H8 q.row,H8 k] w fun e w'=>e=.returned (H8 (Ac p q k).row)∧Below w.heap.size w w':=by
 simp only[Pn.seg];exact B0t p q k hp hq hk w
end
section
def Js (p:Pn):Pn:=
 let a:=Q7 p.x p.x
 let b:=Q7 p.y p.y
 let c:=Q7 p.z p.z
 let h:=Iw a b
 let s:=Iw p.x p.y
 let e:=Jf h (Q7 s s)
 let g:=Jf a b
 let f:=Iw (Iw c c) g
 ⟨Q7 e f,Q7 g h,Q7 f g,Q7 e h⟩
theorem Gv (p:Pn):(Js p).Ok:=⟨rfl,rfl,rfl,rfl⟩
set_option maxRecDepth 100000
theorem C3h (p:Pn) (hp:p.Ok) (w:World):Calls Tryz.prog 97 #[p.val] w fun e w'=>e=.returned (Js p).val∧Below w.heap.size w w':=by
 let a:=Q7 p.x p.x
 let b:=Q7 p.y p.y
 let c:=Q7 p.z p.z
 let h:=Iw a b
 let s:=Iw p.x p.y
 let e:=Jf h (Q7 s s)
 let g:=Jf a b
 let f:=Iw (Iw c c) g
 exact U7 (g:=gPt) 60 (p.av hp)
  [dE (U3 p.x p.x hp.x hp.x) rfl,dE (U3 p.y p.y hp.y hp.y) rfl,dE (U3 p.z p.z hp.z hp.z) rfl,dE (Gr a b rfl rfl) rfl,dE (Gr p.x p.y hp.x hp.y) rfl,
   dE (U3 s s rfl rfl) rfl,dE (Fd h (Q7 s s) rfl rfl) rfl,dE (Fd a b rfl rfl) rfl,dE (Gr c c rfl rfl) rfl,dE (Gr (Iw c c) g rfl rfl) rfl,
   dE (U3 e f rfl rfl) rfl,dE (U3 g h rfl rfl) rfl,dE (U3 f g rfl rfl) rfl,dE (U3 e h rfl rfl) rfl]
  Bq Tryz.func97 (by kernel_rfl) w
theorem Qm (p:Pn) (hp:p.Ok) (w:World):Calls Tryz.prog 97 #[H8 p.row] w fun e w'=>e=.returned (H8 (Js p).row)∧Below w.heap.size w w':=by
 simp only[Pn.seg];exact C3h p hp w
end
section
def D9a:List UInt8:=[163,120,89,19,202,77,235,117,171,216,65,65,77,10,112,0,152,232,121,119,121,64,199,140,115,254,111,43,238,108,3,82]
@[simp, go_sem] theorem B1x : D9a.length = 32 := rfl
attribute [irreducible] D9a
def C1l:List UInt8:=[89,241,178,38,148,155,214,235,86,177,131,130,154,20,224,0,48,209,243,238,242,128,142,25,231,252,223,86,220,217,6,36]
@[simp, go_sem] theorem B0k : C1l.length = 32 := rfl
attribute [irreducible] C1l
def A2m:List UInt8:=[26,213,37,143,96,45,86,201,178,167,37,149,96,199,44,105,92,220,214,253,49,226,164,192,254,83,110,205,211,54,105,33]
@[simp, go_sem] theorem A9d : A2m.length = 32 := rfl
attribute [irreducible] A2m
def A3z:List UInt8:=[88,102,102,102,102,102,102,102,102,102,102,102,102,102,102,102,102,102,102,102,102,102,102,102,102,102,102,102,102,102,102,102]
@[simp, go_sem] theorem B0o : A3z.length = 32 := rfl
attribute [irreducible] A3z
def Eg:Pn:=⟨M1 5,M1 5,M1 5,M1 5⟩
theorem Fe:Eg.Ok:=⟨by simp[Eg],by simp[Eg],by simp[Eg],by simp[Eg]⟩
def Cx (x y:List UInt64):Pn:=⟨x,y,Eb 1,Q7 x y⟩
theorem Ex {x y:List UInt64} (hx:x.length=5) (hy:y.length=5):(Cx x y).Ok:=⟨hx,hy,rfl,rfl⟩
def dee:List UInt64:=Z2 D9a
def F2:List UInt64:=Z2 C1l
@[simp, go_sem] theorem A5r : dee.length = 5 := M7 _
@[simp, go_sem] theorem O7 : F2.length = 5 := M7 _
def U2 (p:Pn):Pn:=if p.row==M1 20 then Cx (Eb 0) (Eb 1) else p
theorem Z8 {p:Pn} (hp:p.Ok):(U2 p).Ok:=by
 unfold U2;split
 ·exact Ex rfl rfl
 ·exact hp
def C3:Pn:=Cx (Z2 A2m) (Z2 A3z)
theorem Bx:C3.Ok:=Ex (M7 _) (M7 _)
def B3l (p q:Pn):Pn:=Ac (U2 p) (U2 q) F2
def Kn (p:Pn):Pn:=⟨Jf (Eb 0) (U2 p).x,(U2 p).y,(U2 p).z,Jf (Eb 0) (U2 p).t⟩
theorem Oo (p q:Pn):(B3l p q).Ok:=Ej _ _ _
theorem D7b {p:Pn} (hp:p.Ok):(Kn p).Ok:=⟨rfl,(Z8 hp).y,(Z8 hp).z,rfl⟩
set_option maxRecDepth 100000
theorem Rh (x y:List UInt64) (hx:x.length=5) (hy:y.length=5) (w:World):Calls Tryz.prog 92 #[H8 x,H8 y] w fun e w'=>e=.returned (Cx x y).val∧Below w.heap.size w w':=
 U7 (g:=gPt) 60 [Ir x 5 hx,Ir y 5 hy] [dE (Li 1) rfl,dE (U3 x y hx hy) rfl] Bq Tryz.func92 (by kernel_rfl) w
theorem B8b (x y:List UInt64) (hx:x.length=5) (hy:y.length=5) (w:World):Calls Tryz.prog 92 #[H8 x,H8 y] w fun e w'=>e=.returned (H8 (Cx x y).row)∧Below w.heap.size w w':=by
 simp only[Pn.seg];exact Rh x y hx hy w
theorem Hi (b:List UInt8) (hb:b.length=32) (w:World):Calls Tryz.prog 93 #[A8 b] w fun e w'=>e=.returned (H8 (Z2 b))∧Below w.heap.size w w':=
 U7 (g:=gPt) 60 [av8 b 32 hb] [dEB (B5n b hb) (M7 b)] Bq Tryz.func93 (by kernel_rfl) w
theorem D5d (w:World):Calls Tryz.prog 142 #[] w fun e w'=>e=.returned (H8 dee)∧Below w.heap.size w w':=
 U7 (g:=gPt) 60 [] [dE (Hi D9a B1x) (M7 _)] Bq Tryz.func142 (by kernel_rfl) w
theorem Yh (w:World):Calls Tryz.prog 95 #[] w fun e w'=>e=.returned (H8 F2)∧Below w.heap.size w w':=
 U7 (g:=gPt) 60 [] [dE (Hi C1l B0k) (M7 _)] Bq Tryz.func95 (by kernel_rfl) w
theorem E2m (w:World):Calls Tryz.prog 65 #[] w fun e w'=>e=.returned C3.val∧Below w.heap.size w w':=
 U7 (g:=gPt) 60 [] [dE (Hi A2m A9d) (M7 _),dE (Hi A3z B0o) (M7 _),dP (Rh (Z2 A2m) (Z2 A3z) (M7 _) (M7 _)) Bx] Bq Tryz.func65 (by kernel_rfl) w
theorem Se (w:World):Calls Tryz.prog 65 #[] w fun e w'=>e=.returned (H8 C3.row)∧Below w.heap.size w w':=by
 simp only[Pn.seg];exact E2m w
theorem D6u (p q:Pn) (hp:p.Ok) (hq:q.Ok) (X Y:Operand) (W:World):(do eqGuard .eql 140 X Y p.val q.val;binOp .eql 140 p.val q.val:Sem Value).run Tryz.prog W=.ok (.bool (p.row==q.row)) W:=by
 rw[←Pn.seg,←Pn.seg];have aA:(eqGuard .eql 140 X Y (H8 p.row) (H8 q.row)).run Tryz.prog W=.ok () W:=run_eqGuard_agg (P:=Tryz.prog) W .eql 140 X Y _ _ (by kernel_rfl);have e1:(binOp .eql 140 (H8 p.row) (H8 q.row)).run Tryz.prog W=.ok (.bool (p.row==q.row)) W:=by
  rw[H8,H8,run_eql_struct];exact congrArg (fun r:Result Bool=>r.andThen fun b w'=>Result.ok (Value.bool b) w') (A4q 9996 W p.row q.row hp.row hq.row)
 simp only[Sem.run_bind,aA,Result.andThen_ok,e1]
def F1i (p q:Pn) (hp:p.Ok) (hq:q.Ok) {b:Bool} (hb:(p.row==q.row)=b):DC Tryz.prog:=⟨.bin .eql 140 p.val q.val (.bool b),by rw[←hb];exact D6u p q hp hq,[av1 (.bool b) rfl]⟩
theorem Pc (p:Pn) (hp:p.Ok) (w:World):Calls Tryz.prog 100 #[p.val] w fun e w'=>e=.returned (U2 p).val∧Below w.heap.size w w':=by
 unfold U2;cases h:p.row==M1 20
 ·exact U7 (g:=gPt) 60 (p.av hp) [F1i p Eg hp Fe h] Bq Tryz.func100 (by kernel_rfl) w
 ·exact U7 (g:=gPt) 60 (p.av hp) [F1i p Eg hp Fe h,dE (Li 0) rfl,dE (Li 1) rfl,dP (Rh (Eb 0) (Eb 1) rfl rfl) (Ex rfl rfl)] Bq Tryz.func100 (by kernel_rfl) w
theorem C3j (p:Pn) (hp:p.Ok) (w:World):Calls Tryz.prog 100 #[H8 p.row] w fun e w'=>e=.returned (H8 (U2 p).row)∧Below w.heap.size w w':=by
 simp only[Pn.seg];exact Pc p hp w
theorem B9d (p q:Pn) (hp:p.Ok) (hq:q.Ok) (w:World):Calls Tryz.prog 143 #[p.val,q.val] w fun e w'=>e=.returned (B3l p q).val∧Below w.heap.size w w':=
 U7 (g:=gPt) 60 (p.av hp++q.av hq) [dP (Pc p hp) (Z8 hp),dP (Pc q hq) (Z8 hq),dE Yh O7,dP (B0t (U2 p) (U2 q) F2 (Z8 hp) (Z8 hq) O7) (Ej _ _ _)] Bq Tryz.func143 (by kernel_rfl) w
theorem F2t (p:Pn) (hp:p.Ok) (w:World):Calls Tryz.prog 117 #[p.val] w fun e w'=>e=.returned (Kn p).val∧Below w.heap.size w w':=
 U7 (g:=gPt) 60 (p.av hp) [dP (Pc p hp) (Z8 hp),dE (Li 0) rfl,dE (Fd (Eb 0) (U2 p).x rfl (Z8 hp).x) rfl,dE (Fd (Eb 0) (U2 p).t rfl (Z8 hp).t) rfl] Bq Tryz.func117 (by kernel_rfl) w
theorem D4u (p:Pn) (hp:p.Ok) (w:World):Calls Tryz.prog 117 #[H8 p.row] w fun e w'=>e=.returned (H8 (Kn p).row)∧Below w.heap.size w w':=by
 simp only[Pn.seg];exact F2t p hp w
end
section
def B2s (q:Pn) (i:List UInt64):List UInt8:=if A2v (Q7 q.x i) then (Q3 (Q7 q.y i)).set 31 (g8 (Q3 (Q7 q.y i)) 31 ||| 128) else Q3 (Q7 q.y i)
def E3 (p:Pn):List UInt8:=B2s (U2 p) (Yt (U2 p).z)
@[simp, go_sem] theorem J0 (p : Pn) : (E3 p).length = 32 := by unfold E3 B2s; split <;> simp
theorem C3b {p:Pn} (h:A2v (Q7 (U2 p).x (Yt (U2 p).z))=true):E3 p=(Q3 (Q7 (U2 p).y (Yt (U2 p).z))).set 31 (g8 (Q3 (Q7 (U2 p).y (Yt (U2 p).z))) 31 ||| 128):=by unfold E3 B2s;rw[if_pos h]
theorem D0c {p:Pn} (h:A2v (Q7 (U2 p).x (Yt (U2 p).z))=false):E3 p=Q3 (Q7 (U2 p).y (Yt (U2 p).z)):=by unfold E3 B2s;rw[if_neg (by rw[h];decide)]
set_option maxRecDepth 100000
theorem C2o (p:Pn) (hp:p.Ok) (w:World):Calls Tryz.prog 67 #[p.val] w fun e w'=>e=.returned (A8 (E3 p))∧Below w.heap.size w w':=by
 let q:=U2 p
 have hq:q.Ok:=Z8 hp;let i:=Yt q.z
 let l:=Q3 (Q7 q.y i)
 have hl:l.length=32:=Gk _;let pre:=[dP (Pc p hp) hq,dE (C2t q.z hq.z) rfl,dE (U3 q.y i hq.y rfl) rfl,E1g (Le (Q7 q.y i) rfl) hl,dE (U3 q.x i hq.x rfl) rfl]
 cases h:A2v (Q7 q.x i)
 ·rw[D0c h,Tx hl];exact U7 (g:=gB) 60 (p.av hp) (pre++[dB (b:=false) (h▸Nl (Q7 q.x i) rfl)]) Bq Tryz.func67 (by kernel_rfl) w
 ·rw[C3b h,E0g hl];exact U7 (g:=gB) 60 (p.av hp) (pre++[dB (b:=true) (h▸Nl (Q7 q.x i) rfl),dOr (g8 l 31) 128]) Bq Tryz.func67 (by kernel_rfl) w
theorem Ud (p:Pn) (hp:p.Ok) (w:World):Calls Tryz.prog 67 #[H8 p.row] w fun e w'=>e=.returned (A8 (E3 p))∧Below w.heap.size w w':=by
 rw[Pn.seg];exact C2o p hp w
end
section
def Yk (b:List UInt8):List UInt8:=b.set 31 (g8 b 31 &&& 127)
theorem B6c {b:List UInt8} (h:b.length=32):(Yk b).length=32:=by unfold Yk;rw[List.length_set];exact h
def Xf (b:List UInt8):List UInt64:=Z2 (Yk b)
theorem A0k (b:List UInt8):(Xf b).length=5:=M7 _
def A3v (b:List UInt8):List UInt64:=Jf (Q7 (Xf b) (Xf b)) (Eb 1)
def A5h (b:List UInt8):List UInt64:=Iw (Q7 (Q7 (Xf b) (Xf b)) dee) (Eb 1)
def Zy (b:List UInt8):List UInt64:=Uz (A3v b) (A5h b)
def Nh (b:List UInt8):Bool:=g8 b 31 >>> 7==1
def Iq (b:List UInt8):Bool:=Ke (Yk b)&&(Gs (A3v b) (A5h b) && !(Nh b&&Q3 (Zy b)==z8 32))
def Ds (b:List UInt8):Pn:=if Iq b then Cx (if Nh b then Jf (Eb 0) (Zy b) else Zy b) (Xf b) else Eg
def A1l (b:List UInt8):Int:=if Iq b then 0 else 50
theorem Km (b:List UInt8):(Ds b).Ok:=by
 unfold Ds;split
 ·refine Ex ?_ (A0k b);split
  ·rfl
  ·exact Xh _ _
 ·exact Fe
theorem A2b {b:List UInt8} (h:Iq b=false):Ds b=Eg∧A1l b=50:=by unfold Ds A1l;rw[if_neg (by rw[h];decide),if_neg (by rw[h];decide)];exact ⟨rfl,rfl⟩
theorem B5s {b:List UInt8} (h:Ke (Yk b)=false):Ds b=Eg∧A1l b=50:=A2b (by unfold Iq;rw[h];rfl)
theorem B5u {b:List UInt8} (h:Gs (A3v b) (A5h b)=false):Ds b=Eg∧A1l b=50:=A2b (by unfold Iq;rw[h];simp)
theorem D3q {b:List UInt8} (h:Nh b=true) (h2:(Q3 (Zy b)==z8 32)=true):Ds b=Eg∧A1l b=50:=A2b (by unfold Iq;rw[h,h2];simp)
theorem D1y {b:List UInt8} (h0:Ke (Yk b)=true) (h1:Gs (A3v b) (A5h b)=true) (h:Nh b=false):Ds b=Cx (Zy b) (Xf b)∧A1l b=0:=by
 have e:Iq b=true:=by unfold Iq;rw[h0,h1,h];rfl
 unfold Ds A1l;rw[if_pos e,if_pos e,if_neg (by rw[h];decide)];exact ⟨rfl,rfl⟩
theorem D7j {b:List UInt8} (h0:Ke (Yk b)=true) (h1:Gs (A3v b) (A5h b)=true) (h:Nh b=true) (h2:(Q3 (Zy b)==z8 32)=false):Ds b=Cx (Jf (Eb 0) (Zy b)) (Xf b)∧A1l b=0:=by
 have e:Iq b=true:=by unfold Iq;rw[h0,h1,h,h2];rfl
 unfold Ds A1l;rw[if_pos e,if_pos e,if_pos h];exact ⟨rfl,rfl⟩
set_option maxRecDepth 100000
theorem E1f {b:List UInt8} (hb:b.length=32):A8 (Yk b)=b31 b (g8 b 31 &&& 127):=E0g hb _
theorem C0f (b:List UInt8) (hb:b.length=32) (w:World):Calls Tryz.prog 113 #[A8 b] w fun e w'=>e=.returned (.tuple #[H8 (Ds b).row,.int .i64 (A1l b)])∧Below w.heap.size w w':=by
 rw[Pn.seg,Tx hb];let y:=Xf b
 have hy:=A0k b;let ρ:=[av8 (b.take 31) 31 (by simp[hb]),av8 [g8 b 31] 1 rfl]
 have aB:∀W,Calls Tryz.prog 125 #[b31 b (g8 b 31 &&& 127)] W fun e W'=>e=.returned (.tuple #[H8 y,.bool (Ke (Yk b))])∧Below W.heap.size W W':=by rw[←E1f hb];exact B5n (Yk b) (B6c hb)
 have aA:=C7g (A3v b) (A5h b) rfl rfl;let mid:=[dE (U3 y y hy hy) rfl,dE (Li 1) rfl,dE (Fd (Q7 y y) (Eb 1) rfl rfl) rfl,dE D5d A5r,dE (U3 (Q7 y y) dee rfl A5r) rfl,dE (Gr (Q7 (Q7 y y) dee) (Eb 1) rfl rfl) rfl]
 let x:=Zy b
 have hx:x.length=5:=Xh _ _;cases ho:Nh b
 ·let pre:=[F0z (g8 b 31) .u64 7 (by decide),F1b (g8 b 31 >>> 7) 1 ho,F2r (g8 b 31) 127]
  cases h0:Ke (Yk b)
  ·obtain⟨e1,e2⟩:=B5s h0;rw[e1,e2];exact U7 (g:=gB) 60 ρ (pre++[dEB (b:=false) (h0▸aB) hy]) Bq Tryz.func113 (by kernel_rfl) w
  ·cases h1:Gs (A3v b) (A5h b)
   ·obtain⟨e1,e2⟩:=B5u h1;rw[e1,e2];exact U7 (g:=gB) 60 ρ (pre++(dEB (b:=true) (h0▸aB) hy::(mid++[dEB (b:=false) (h1▸aA) hx]))) Bq Tryz.func113 (by kernel_rfl) w
   ·obtain⟨e1,e2⟩:=D1y h0 h1 ho;rw[e1,e2];exact U7 (g:=gB) 60 ρ (pre++(dEB (b:=true) (h0▸aB) hy::(mid++[dEB (b:=true) (h1▸aA) hx,dP (Rh x y hx hy) (Ex hx hy)]))) Bq Tryz.func113 (by kernel_rfl) w
 ·let pre:=[F0z (g8 b 31) .u64 7 (by decide),F1b (g8 b 31 >>> 7) 1 ho,F2r (g8 b 31) 127]
  cases h0:Ke (Yk b)
  ·obtain⟨e1,e2⟩:=B5s h0;rw[e1,e2];exact U7 (g:=gB) 60 ρ (pre++[dEB (b:=false) (h0▸aB) hy]) Bq Tryz.func113 (by kernel_rfl) w
  ·cases h1:Gs (A3v b) (A5h b)
   ·obtain⟨e1,e2⟩:=B5u h1;rw[e1,e2];exact U7 (g:=gB) 60 ρ (pre++(dEB (b:=true) (h0▸aB) hy::(mid++[dEB (b:=false) (h1▸aA) hx]))) Bq Tryz.func113 (by kernel_rfl) w
   ·cases h2:Q3 x==z8 32
    ·obtain⟨e1,e2⟩:=D7j h0 h1 ho h2;rw[e1,e2];exact U7 (g:=gB) 60 ρ (pre++(dEB (b:=true) (h0▸aB) hy::(mid++[dEB (b:=true) (h1▸aA) hx,E1g (Le x hx) (Gk _),D9t (Q3 x) (z8 32) (Gk _) rfl h2,dE (Li 0) rfl,dE (Fd (Eb 0) x rfl hx) rfl,dP (Rh (Jf (Eb 0) x) y rfl hy) (Ex rfl hy)]))) Bq Tryz.func113 (by kernel_rfl) w
    ·obtain⟨e1,e2⟩:=D3q ho h2;rw[e1,e2];exact U7 (g:=gB) 60 ρ (pre++(dEB (b:=true) (h0▸aB) hy::(mid++[dEB (b:=true) (h1▸aA) hx,E1g (Le x hx) (Gk _),D9t (Q3 x) (z8 32) (Gk _) rfl h2]))) Bq Tryz.func113 (by kernel_rfl) w
end
section
def Pl (ps:List Pn):List UInt64:=(ps.map Pn.row).flatten
def Mo (ps:List Pn):Prop:=∀p∈ps,p.Ok
theorem Z7:∀ {ps:List Pn},Mo ps→(Pl ps).length=ps.length*20
 | [],_=>rfl
 | p::ps,h=>by
  have h1:=Z7 (ps:=ps) fun q hq=>h q (by simp[hq]);have h2:=(h p (by simp)).row;show (p.row++Pl ps).length=_;rw[List.length_append,h1,h2,List.length_cons];omega
theorem C7v:∀ {ps:List Pn} (i:Nat),Mo ps→i<ps.length→((Pl ps).drop (i*20)).take 20=(ps.getD i Eg).row
 | p::ps,0,h,_=>by
  have h2:=(h p (by simp)).row;show (p.row++Pl ps).take 20=p.row;rw[List.take_append_of_le_length (by omega),List.take_of_length_le (by omega)]
 | p::ps,i+1,h,hi=>by
  have h2:=(h p (by simp)).row;have h1:=C7v (ps:=ps) i (fun q hq=>h q (by simp[hq])) (by simpa using hi);show ((p.row++Pl ps).drop ((i+1)*20)).take 20=_;rw[show (i+1)*20=p.row.length+i*20 by omega,List.drop_append,List.drop_eq_nil_of_le (by omega),List.nil_append,Nat.add_sub_cancel_left,h1];rfl
theorem C9z:∀ {ps:List Pn} (i:Nat) {q:Pn},Mo ps→q.Ok→i<ps.length→(Pl ps).take (i*20)++q.row++(Pl ps).drop (i*20+20)=Pl (ps.set i q)
 | p::ps,0,q,h,hq,_=>by
  have h2:=(h p (by simp)).row;show (p.row++Pl ps).take 0++q.row++(p.row++Pl ps).drop (0+20)=q.row++Pl ps;rw[show 0+20=p.row.length+0 by omega,List.drop_append];simp
 | p::ps,i+1,q,h,hq,hi=>by
  have h2:=(h p (by simp)).row;have h1:=C9z (ps:=ps) i (fun q hq=>h q (by simp[hq])) hq (by simpa using hi);show (p.row++Pl ps).take ((i+1)*20)++q.row++(p.row++Pl ps).drop ((i+1)*20+20)=p.row++Pl (ps.set i q);rw[←h1,show (i+1)*20+20=p.row.length+(i*20+20) by omega,List.drop_append,List.drop_eq_nil_of_le (by omega),List.nil_append,Nat.add_sub_cancel_left,show (i+1)*20=p.row.length+i*20 by omega,List.take_append,List.take_of_length_le (by omega),Nat.add_sub_cancel_left];simp
theorem Mo.getD {ps:List Pn} (h:Mo ps) (i:Nat):(ps.getD i Eg).Ok:=by
 by_cases hi:i<ps.length
 ·rw[List.getD_eq_getElem?_getD,List.getElem?_eq_getElem hi];exact h _ (List.getElem_mem hi)
 ·rw[List.getD_eq_getElem?_getD,List.getElem?_eq_none (by omega)];exact Fe
def U6 (ps:List Pn) (i:Nat):Pn:=ps.getD i Eg
theorem Mo.at {ps:List Pn} (h:Mo ps) (i:Nat):(U6 ps i).Ok:=h.getD i
section
variable {w : World} {g : Nat} {t : TypeId} {ps : List Pn}
theorem Bk.plAt (K:Bk w g t (C9 (Pl ps))) (h:Mo ps) {i:Nat} (hi:i<ps.length):C8 w ⟨g,i*20,none⟩ 20=some (C9 (U6 ps i).row):=by
 show _=some (C9 (ps.getD i Eg).row);have hl:=Z7 h;rw[K.rowMid (i*20) 20 (by simp[hl];omega),←C7v i h hi];simp[C9]
theorem Bk.plCan (K:Bk w g t (C9 (Pl ps))) (h:Mo ps) {i:Nat} (hi:i<ps.length):P7 w ⟨g,i*20,none⟩ 20=true:=by
 have hl:=Z7 h;exact K.can (by simp[hl];omega)
theorem Bk.plPut (K:Bk w g t (C9 (Pl ps))) (h:Mo ps) {i:Nat} (hi:i<ps.length) {q:Pn} (hq:q.Ok):Bk (C4 w ⟨g,i*20,none⟩ (C9 q.row)) g t (C9 (Pl (ps.set i q))):=by
 have hl:=Z7 h;have h1:=K.put (o:=i*20) (vs:=C9 q.row) (by simp[hl,hq.row];omega);rw[←C9z i h hq hi];simpa [C9,hq.row] using h1
end
def Lw (f:Nat→Pn) (n m:Nat):List Pn:=(List.range n).map fun i=>if i<m then f i else Eg
@[simp] theorem A0m (f : Nat → Pn) (n m : Nat) : (Lw f n m).length = n := by simp [Lw]
theorem Mt {f:Nat→Pn} (hf:∀i,(f i).Ok) (n m:Nat):Mo (Lw f n m):=fun p hp=>by
 obtain⟨i,_,rfl⟩:=List.mem_map.1 hp;split
 ·exact hf i
 ·exact Fe
theorem D0r {f:Nat→Pn} {n m i:Nat} (hi:i<n):(Lw f n m).getD i Eg=if i<m then f i else Eg:=by
 rw[List.getD_eq_getElem?_getD];simp[Lw,hi]
theorem C2e {f:Nat→Pn} {n m i:Nat} (hi:i<n):U6 (Lw f n m) i=if i<m then f i else Eg:=D0r hi
theorem C8p {f:Nat→Pn} {n m:Nat} (hm:m<n) {q:Pn} (hq:q=f m):(Lw f n m).set m q=Lw f n (m+1):=by
 subst hq;apply List.ext_getElem
 ·simp
 ·intro i h1 h2;simp only[Lw,List.getElem_set,List.getElem_map,List.getElem_range];by_cases e:m=i
  ·subst e;simp
  ·rw[if_neg e];by_cases h:i<m
   ·rw[if_pos h,if_pos (by omega)]
   ·rw[if_neg h,if_neg (by omega)]
theorem E2s (f:Nat→Pn):Pl (Lw f 32 0)=M1 640:=by kernel_rfl
def Xd (n:List UInt8) (i:Nat):UInt8:=g8 n (i / 2) >>> UInt8.ofNat (4*(i % 2)) &&& 15
theorem B8s (n:List UInt8) (i:Nat):(Xd n i).toNat<16:=by
 unfold Xd;rw[UInt8.toNat_and];exact Nat.lt_of_le_of_lt Nat.and_le_right (by decide)
theorem C5p (n:List UInt8) (hn:n.length=32) (i:Nat) (hi:i<64) (w:World):Calls Tryz.prog 99 #[A8 n,.int .i64 (i:Int)] w fun e w'=>e=.returned (.int .u8 (n8 (Xd n i)))∧Below w.heap.size w w':=by
 have aB:(i:Int) / 2=((i / 2:Nat):Int):=by omega
 have aC:(i:Int) % 2=((i % 2:Nat):Int):=by omega
 have aD:i / 2<32:=by omega
 have h2:i % 2<2:=by omega
 have k0:=(Bk.new w 23 (c8 n)).at_ (Eu (l:=n) (i:=i / 2) (by omega));obtain⟨D,hD⟩:=E9 (Xd n i);have aA:D=g8 n (i / 2) >>> UInt8.ofNat (4*(i % 2)) &&& 15:=hD;have HD:=Lib.hid hD;rw[←hD];have HE:=Lib.hid aA;clear hD aA;have hB:Below w.heap.size w (w.alloc (Obj.cells (c8 n).toArray 23)):=Bh _ _;generalize i / 2=q at *;generalize i % 2=r at *;obtain⟨s,hs⟩:=E9 (4*r);have h4:4*(r:Int)=(s:Int):=by omega
 have aE:s<8:=by omega
 have HS:=Lib.hid hs;clear hs;go_enter Tryz.func99,Tryz.ntmps99;go_wp2_with fail;go_ret;exact ⟨by rw[HE.out,HS.out];rfl,hB⟩
end
section
def dg (n:List UInt8) (i:Nat):Nat:=(Xd n i).toNat
theorem B5m (n:List UInt8) (i:Nat):dg n i<16:=B8s n i
theorem Wb (n:List UInt8) (hn:n.length=32) (i:Nat) (hi:i<64) (w:World):Calls Tryz.prog 99 #[A8 n,.int .i64 (i:Int)] w fun e w'=>e=.returned (.int .u8 ((dg n i:Nat):Int))∧Below w.heap.size w w':=C5p n hn i hi w
def C0b (p:Pn) (k:List UInt64):Nat→Pn
 | 0=>U2 Eg
 | 1=>U2 p
 | i+2=>Ac (C0b p k (i+1)) (U2 p) k
theorem A9k {p:Pn} (hp:p.Ok) (k:List UInt64):∀i,(C0b p k i).Ok
 | 0=>Z8 Fe
 | 1=>Z8 hp
 | i+2=>Ej _ _ _
def J8 (p:Pn) (k:List UInt64):List Pn:=Lw (C0b p k) 16 16
theorem Am {p:Pn} (hp:p.Ok) (k:List UInt64):Mo (J8 p k):=Mt (A9k hp k) 16 16
@[simp, go_sem] theorem D4z (p : Pn) (k : List UInt64) : (J8 p k).length = 16 := A0m _ _ _
theorem Zj {p:Pn} {k:List UInt64} {i:Nat} (hi:i<16):U6 (J8 p k) i=C0b p k i:=by
 unfold J8;rw[C2e hi,if_pos hi]
def plC:List Pn→List Value
 | []=>[]
 | [q]=>C9 q.x++(C9 q.y++(C9 q.z++C9 q.t))
 | q::l=>C9 q.x++(C9 q.y++(C9 q.z++(C9 q.t++plC l)))
theorem D1h:∀l:List Pn,C9 (Pl l)=plC l
 | []=>rfl
 | [q]=>by simp[plC,Pl,Pn.row,ptl,C9]
 | q::r::l=>by
  have ih:=D1h (r::l);have h:C9 (Pl (q::r::l))=C9 q.row++C9 (Pl (r::l)):=by simp[Pl,C9]
  rw[h,ih];simp[plC,Pn.row,ptl,C9]
set_option maxRecDepth 100000
theorem A3x (p:Pn) (k:List UInt64) (hp:p.Ok) (hk:k.length=5) (w:World):Calls Tryz.prog 96 #[H8 p.row,H8 k] w fun e w'=>e=.returned (H8 (Pl (J8 p k)))∧Below w.heap.size w w':=by
 rw[Pn.seg,show H8 (Pl (J8 p k))=.agg (plC (J8 p k)).toArray by rw[H8,D1h]];exact U7 (g:=gPt) 100 (p.av hp++[Ir k 5 hk]) ([dP (Pc Eg Fe) (Z8 Fe),dP (Pc p hp) (Z8 hp)]++(List.range 14).map fun i=>dP (B0t (C0b p k (i+1)) (U2 p) k (A9k hp k _) (Z8 hp) hk) (A9k hp k (i+2))) Bq Tryz.func96 (by kernel_rfl) w
end
def Cq:Nat→Pn→Pn
 | 0,p=>p
 | q+1,p=>Js (Cq q p)
theorem Ei {p:Pn} (hp:p.Ok):∀q,(Cq q p).Ok
 | 0=>hp
 | q+1=>Gv _
def Ce (n:List UInt8) (p:Pn) (m:List UInt8):Nat→Pn
 | 0=>U6 (J8 C3 F2) 0
 | i+1=>Ac (Ac (Cq 4 (Ce n p m i)) (U6 (J8 C3 F2) (dg n (63-i))) F2) (U6 (J8 p F2) (dg m (63-i))) F2
theorem Eo (n:List UInt8) (p:Pn) (m:List UInt8):∀i,(Ce n p m i).Ok
 | 0=>(Am Bx F2).at 0
 | i+1=>Ej _ _ _
def Lo (n:List UInt8) (p:Pn) (m:List UInt8):Pn:=Ce n p m 64
theorem C9y (n:List UInt8) (p:Pn) (m:List UInt8):(Lo n p m).Ok:=Eo _ _ _ _
def A2n:Nat→Pn→Pn
 | 0,p=>p
 | q+1,p=>B3l (A2n q p) (A2n q p)
theorem C8h (n:List UInt8) (p:Pn) (mm:List UInt8) (hn:n.length=32) (hp:p.Ok) (hmm:mm.length=32) (w:World):Calls Tryz.prog 116 #[A8 n,H8 p.row,A8 mm] w fun e w'=>e=.returned (H8 (Lo n p mm).row)∧Below w.heap.size w w':=by
 have kO:=Bx.row;obtain⟨W0,iR⟩:=E9 (((((w.alloc (Obj.cells (c8 n).toArray 23)).alloc (Obj.cells (C9 p.row).toArray 140)).alloc (Obj.cells (c8 mm).toArray 23)).alloc (Obj.cells (C9 (M1 20)).toArray 140)));have hL:W0=O8 w [(23,(c8 n)),(140,(C9 p.row)),(23,(c8 mm)),(140,(C9 (M1 20)))]:=iR;have B0:=Rf hL;have fZ:=Um hL rfl;have gA:=Nm 1 hL rfl;have gC:=Nm 2 hL rfl;have gF:=Nm 3 hL rfl;have z0:=ZL' 4 hL rfl;have jT:=SL' 4 hL rfl;clear hL;go_enter Tryz.func116,Tryz.ntmps116;go_wp2_with fail;rw[←iR];clear iR jT;refine (Yh W0).mono ?_;rintro e W1 ⟨rfl,b2⟩;have B1:=Q5 B0 b2;have z1:=Nat.le_trans z0 b2.size;have eK:=fZ.bl b2;have eL:=gA.bl b2;have eM:=gC.bl b2;have eN:=gF.bl b2;clear b2 B0 z0 fZ gA gC gF;obtain⟨V3,cS⟩:=E9 (W1.alloc (Obj.cells (C9 (M1 5)).toArray 138));have eO:W1.heap.size=W1.heap.size:=rfl;have bL:Bk V3 (W1.heap.size) 138 (C9 (M1 5)):=by rw[cS,←eO];exact Bk.new W1 _ _
 have cX:=Ed cS eK;have cY:=Ed cS eL;have cZ:=Ed cS eM;have dC:=Ed cS eN;have jE:=Uo cS B1;have bM:=Et eO eK;have bN:=Et eO eL;have bO:=Et eO eM;have bP:=Et eO eN;have gG:w.heap.size+4≤W1.heap.size:=by rw[←eO];exact Nat.le_trans z1 (Nat.le_refl _)
 clear eO;obtain⟨V4,cT⟩:=E9 (C4 V3 ⟨W1.heap.size,0,none⟩ (C9 F2));have aL:=Zx 5 cT bL (by simp) O7;have aY:=U1 cT cX (by omega);have aQ:=U1 cT cY (by omega);have aZ:=U1 cT cZ (by omega);have bA:=U1 cT dC (by omega);have jF:=Iu cT jE (by omega);have dD:=Uh 5 bL (by simp);rw[cS]at dD;have aU:F2.length=5:=O7;go_wp2_with fail;rw[←cS,←cT];clear dD aU;obtain⟨p5,iS⟩:=E9 (W1.heap.size);rw[←iS]at aL bM bN bO bP gG;try rw[←iS]
 have iQ:w.heap.size+4≤V4.heap.size:=by have hz:=z1;rw[cT,cS];first | (simp;omega) | (simp[World.setCell];omega)
 clear cS cT iS eK eL eM eN B1 z1 cX cY cZ dC bL jE;have S6:=Kg V4;refine Jh (fun W=>Bk W (w.heap.size+1) 140 (C9 p.row)∧Bk W (p5) 138 (C9 F2)) ?_;refine Fs (A:=?kP) [1,3,4] ⟨(aQ.drew),(aL.drew)⟩ (fun W hW=>?jU) ?kQ;case jU=>
  have f1:=Bk.row64 (n:=5) (hW.2) (O7);have f3:=Bk.row64 (n:=20) (hW.1) (hp.row);exact Gq
 refine N8 [zv 0 13 (H8 C3.row),zv 2 15 (H8 (Pl (J8 C3 F2))),zv 5 18 (H8 (Pl (J8 p F2))),za 6 8 177 (C9 (M1 320)),za 7 9 177 (C9 (M1 320))] (by kernel_rfl) (fun W hW=>⟨(aQ.drew.bl hW),(aL.drew.bl hW)⟩) ?gH ?gI ?gJ;case gH=>exact MO'
 case gI=>
  refine (Z3 ⟨?iT,(Z3 ⟨?iU,(Z3 ⟨?iV,(Z3 ⟨?iW,(Z3 ⟨?iX,Zh⟩)⟩)⟩)⟩)⟩);case iT=>
   exact KC' fun W=>Se W
  case iU=>exact D4r fun W=>A3x C3 F2 Bx O7 W
  case iV=>exact E7z fun W=>A3x p F2 hp O7 W
  case iW=>exact Fv rfl rfl (fun ρ W=>A7a W ρ _ _ _ _ _)
  case iX=>exact Fv rfl rfl (fun ρ W=>A7a W ρ _ _ _ _ _)
 case gJ=>
 intro us W7 b8 hg cU gK;have dF:us 0=(H8 C3.row):=hg _ (Ca 0 rfl);have jG:us 2=(H8 (Pl (J8 C3 F2))):=hg _ (Ca 1 rfl);have dG:us 5=(H8 (Pl (J8 p F2))):=hg _ (Ca 2 rfl);obtain⟨p9,fW,eP⟩:=hg _ (Ca 3 rfl);have fW:us 6=.pointer (some ⟨p9,0,none⟩):=fW;have eQ:=Qu (gK _ (Ca 3 rfl) rfl) fW;obtain⟨eS,aV,gL⟩:=hg _ (Ca 4 rfl);have aV:us 7=.pointer (some ⟨eS,0,none⟩):=aV;have eT:=Qu (gK _ (Ca 4 rfl) rfl) aV;have fX:=E3a (cU _ (Ca 3 rfl) _ (Ca 4 rfl) rfl rfl (by decide)) fW aV;have dI:=Q5 S6 b8;have gM:=Mp aY eQ.1;have gN:=Mp aQ eQ.1;have gO:=Mp aZ eQ.1;have gP:=Mp bA eQ.1;have gQ:=Mp aL eQ.1;have jH:=Nat.le_trans iQ (Nat.le_trans S6.size eQ.1);clear eQ;have gR:=Mp aY eT.1;have gS:=Mp aQ eT.1;have gT:=Mp aZ eT.1;have gU:=Mp bA eT.1;have gV:=Mp aL eT.1;have jI:=Nat.le_trans iQ (Nat.le_trans S6.size eT.1);clear eT;refine RP' ?_;rw[dF,jG,dG,fW,aV];clear hg cU gK dF jG dG fW aV b8 S6;have B7:=Q5 jF dI;have z7:=Nat.le_trans iQ dI.size;have gW:=aY.bl dI;have gY:=aQ.bl dI;have gZ:=aZ.bl dI;have iA:=bA.bl dI;have iB:=aL.bl dI;clear dI jF iQ aY aQ aZ bA aL;obtain⟨jV,aM⟩:=E9 (C4 W7 ⟨p9,0,none⟩ (C9 (Pl (J8 C3 F2))));have dJ:=Zx 320 aM eP (by simp) (by rw[Z7 (Am Bx F2)];simp)
 have dK:=U1 aM gW (by omega);have bQ:=U1 aM gY (by omega);have dL:=U1 aM gZ (by omega);have dM:=U1 aM iA (by omega);have bR:=U1 aM iB (by omega);have bS:=U1 aM gL (by omega);have jJ:=Iu aM B7 (by omega);have eU:=Uh 320 eP (by simp);have eV:(Pl (J8 C3 F2)).length=320:=(show (Pl (J8 C3 F2)).length=320 from by rw[Z7 (Am Bx F2)];simp);refine Ci 8 fun Q' hQ'=>?_;dsimp only[C7];go_wp2_with fail;rw[←aM];refine hQ' _ _ ⟨bQ,bR⟩ ?_;clear hQ' eU eV;have jK:=ZP' aM z7;clear aM B7 z7 gW gY gZ iA iB eP gL;obtain⟨dN,aN⟩:=E9 (C4 jV ⟨eS,0,none⟩ (C9 (Pl (J8 p F2))));have bT:=Zx 320 aN bS (by simp) (by rw[Z7 (Am hp F2)];simp);have bU:=U1 aN dK (by omega);have bB:=U1 aN bQ (by omega);have bV:=U1 aN dL (by omega);have bX:=U1 aN dM (by omega);have bC:=U1 aN bR (by omega);have bD:=U1 aN dJ (by omega);have jL:=Iu aN jJ (by omega);have eX:=Uh 320 bS (by simp);have eY:(Pl (J8 p F2)).length=320:=(show (Pl (J8 p F2)).length=320 from by rw[Z7 (Am hp F2)];simp);refine Ci 9 fun Q' hQ'=>?_;dsimp only[C7];go_wp2_with fail;rw[←aN];refine hQ' _ _ ⟨bB,bC⟩ ?_;clear hQ' eX eY;have iY:=ZP' aN jK;clear aN jJ jK dK bQ dL dM bR dJ bS;refine It ?_
 obtain⟨jM,aF⟩:=E9 (dN.alloc (Obj.cells (C9 (M1 20)).toArray 140));have aP:dN.heap.size=dN.heap.size:=rfl;have aR:Bk jM (dN.heap.size) 140 (C9 (M1 20)):=by rw[aF,←aP];exact Bk.new dN _ _
 have bY:=Ed aF bU;have bZ:=Ed aF bB;have cA:=Ed aF bV;have cB:=Ed aF bX;have cC:=Ed aF bC;have cD:=Ed aF bD;have cE:=Ed aF bT;have iC:=Uo aF jL;have bE:=Et aP bU;have bF:=Et aP bB;have bG:=Et aP bV;have bH:=Et aP bX;have bI:=Et aP bC;have bJ:=Et aP bD;have bK:=Et aP bT;have eZ:w.heap.size+4≤dN.heap.size:=by rw[←aP];exact Nat.le_trans iY (Nat.le_refl _)
 clear aP;obtain⟨jW,aI⟩:=E9 (C4 jM ⟨dN.heap.size,0,none⟩ (C9 (U6 (J8 C3 F2) 0).row));have aS:=Zx 20 aI aR (by simp) (((Am Bx F2).at 0).row);have cF:=U1 aI bY (by omega);have cG:=U1 aI bZ (by omega);have cH:=U1 aI cA (by omega);have cI:=U1 aI cB (by omega);have cJ:=U1 aI cC (by omega);have cK:=U1 aI cD (by omega);have cL:=U1 aI cE (by omega);have iD:=Iu aI iC (by omega);have jX:=show C8 _ ⟨_,0,none⟩ 20=some (C9 (U6 (J8 C3 F2) 0).row) from Bk.plAt (i:=0) (bD) (Am Bx F2) (by simp;try omega);have cM:=Uh 20 aR (by simp);rw[aF]at cM;have aU:(U6 (J8 C3 F2) 0).row.length=20:=((Am Bx F2).at 0).row;go_wp2_with fail;rw[←aF,←aI];clear jX cM aU;obtain⟨fY,fB⟩:=E9 (dN.heap.size);rw[←fB]at aS bE bF bG bH bI bJ bK eZ;try rw[←fB]
 have iE:w.heap.size+4≤jW.heap.size:=by have hz:=iY;rw[aI,aF];first | (simp;omega) | (simp[World.setCell];omega)
 clear aF aI fB bU bB bV bX bC bD bT jL iY bY bZ cA cB cC cD cE aR iC;go_loopw [11] (fun x11 wr=>∃m:Nat,0≤m∧m≤64∧x11=.int .i64 (63-(m:Int))∧Bk wr (w.heap.size) 23 (c8 n)∧Bk wr (w.heap.size+1) 140 (C9 p.row)∧Bk wr (w.heap.size+2) 23 (c8 mm)∧Bk wr (w.heap.size+3) 140 (C9 (M1 20))∧Bk wr (p5) 138 (C9 F2)∧Bk wr (p9) 177 (C9 (Pl (J8 C3 F2)))∧Bk wr (eS) 177 (C9 (Pl (J8 p F2)))∧Bk wr (fY) 140 (C9 (Ce n p mm m).row)∧Below w.heap.size w wr∧w.heap.size+4≤wr.heap.size) (fun x11 _=>(intOf x11+1).toNat)
 case atStart=>exact ⟨0,by omega,by omega,rfl,cF,cG,cH,cI,cJ,cK,cL,aS,iD,iE⟩
 case round=>
  clear iD iE cF cG cH cI cJ cK cL aS;obtain⟨m,kR,hm,rfl,aB,aO,aC,aD,aE,aG,aH,aA,dO,cV⟩:=hrel;by_cases hltm:m<64
  ·
   obtain⟨s,hs⟩:=E9 (63-m);have es:63-(m:Int)=(s:Int):=by omega
   have jY:s<64:=by omega
   have hd:decide (0≤(s:Int))=true:=decide_eq_true (by omega);rw[es];have HM:Hid (Ce n p mm (m+1)=Ac (Ac (Cq 4 (Ce n p mm m)) (U6 (J8 C3 F2) (dg n s)) F2) (U6 (J8 p F2) (dg mm s)) F2):=Lib.hid (by rw[hs];rfl);have ES:=Lib.hid es;clear hs es;have jZ:=B5m n s;have kB:=B5m mm s;go_wp2_with fail;go_loopw [25] (fun x25 wr=>∃q:Nat,0≤q∧q≤4∧x25=.int .i64 (q:Int)∧Bk wr (w.heap.size) 23 (c8 n)∧Bk wr (w.heap.size+1) 140 (C9 p.row)∧Bk wr (w.heap.size+2) 23 (c8 mm)∧Bk wr (w.heap.size+3) 140 (C9 (M1 20))∧Bk wr (p5) 138 (C9 F2)∧Bk wr (p9) 177 (C9 (Pl (J8 C3 F2)))∧Bk wr (eS) 177 (C9 (Pl (J8 p F2)))∧Bk wr (fY) 140 (C9 (Cq q (Ce n p mm m)).row)∧Below w.heap.size w wr∧w.heap.size+4≤wr.heap.size) (fun x25 _=>4-(intOf x25).toNat)
   case atStart=>exact ⟨0,by omega,by omega,rfl,aB,aO,aC,aD,aE,aG,aH,aA,dO,cV⟩
   case round=>
    clear dO cV aB aO aC aD aE aG aH aA;obtain⟨q,kS,hq,rfl,aB,aO,aC,aD,aE,aG,aH,aA,dO,cV⟩:=hrel;by_cases hltq:q<4
    ·
     have kT:decide ((q:Int)<4)=true:=decide_eq_true (by omega);have kC:=Bk.row64 (n:=20) (aA) ((Ei (Eo n p mm m) q).row);go_wp2_with fail;clear kC;refine (Qm (Cq q (Ce n p mm m)) (Ei (Eo n p mm m) q) wr).mono ?_;rintro e kE ⟨rfl,cN⟩;have jN:=Q5 dO cN;have jO:=Nat.le_trans cV cN.size;have dQ:=aB.bl cN;have dS:=aO.bl cN;have dT:=aC.bl cN;have dU:=aD.bl cN;have dW:=aE.bl cN;have dX:=aG.bl cN;have dY:=aH.bl cN;have aW:=aA.bl cN;clear cN dO cV aB aO aC aD aE aG aH aA;obtain⟨kF,aJ⟩:=E9 (C4 kE ⟨fY,0,none⟩ (C9 (Js (Cq q (Ce n p mm m))).row));have cW:Bk kF (fY) 140 (C9 (Js (Cq q (Ce n p mm m))).row):=by rw[aJ];exact Bk.put64 (aW) ((Ei (Eo n p mm m) q).row) ((Gv (Cq q (Ce n p mm m))).row)
     have fC:=U1 aJ dQ (by omega);have fD:=U1 aJ dS (by omega);have fE:=U1 aJ dT (by omega);have fF:=U1 aJ dU (by omega);have fG:=U1 aJ dW (by omega);have fH:=U1 aJ dX (by omega);have fI:=U1 aJ dY (by omega);have iZ:=Iu aJ jN (by omega);have fJ:=Uh 20 aW ((Ei (Eo n p mm m) q).row);have aU:(Js (Cq q (Ce n p mm m))).row.length=20:=(Gv (Cq q (Ce n p mm m))).row;go_wp2_with fail;rw[←aJ];clear fJ aU;have jA:=ZP' aJ jO;clear aJ dQ dS dT dU dW dX dY aW jN jO;go_roundw;case rel=>exact ⟨q+1,by omega,by omega,by go_num,fC,fD,fE,fF,fG,fH,fI,cW,iZ,jA⟩
     case measure=>simp[intOf];omega
    ·
     obtain rfl:q=4:=by omega
     have e4:((4:Nat):Int)=4:=rfl;rw[e4];clear e4;go_wp2_with fail;have jP:=Kg wr;refine Jh (fun W=>Bk W (w.heap.size) 23 (c8 n)∧Bk W (w.heap.size+2) 23 (c8 mm)∧Bk W (p5) 138 (C9 F2)) ?_;refine Fs (A:=?kG) [1,2,6,8,9,13] ⟨(aB.drew),(aC.drew),(aE.drew)⟩ (fun W hW=>?jB) ?kH;case jB=>have f1:=Bk.row8 (n:=32) (hW.1) (hn);have f6:=Bk.row64 (n:=5) (hW.2.2) (O7);have f8:=Bk.row8 (n:=32) (hW.2.1) (hmm);exact Gq
     refine N8 [zv 0 30 (H8 (Cq 4 (Ce n p mm m)).row),zv 3 33 (.int .u8 ((dg n s:Nat):Int)),zv 4 34 (.pointer (some ⟨p9,(dg n s)*20,none⟩)),zv 5 35 (H8 (U6 (J8 C3 F2) (dg n s)).row),zv 7 37 (H8 (Ac (Cq 4 (Ce n p mm m)) (U6 (J8 C3 F2) (dg n s)) F2).row),zv 10 40 (.int .u8 ((dg mm s:Nat):Int)),zv 11 41 (.pointer (some ⟨eS,(dg mm s)*20,none⟩)),zv 12 42 (H8 (U6 (J8 p F2) (dg mm s)).row),zv 14 44 (H8 (Ac (Ac (Cq 4 (Ce n p mm m)) (U6 (J8 C3 F2) (dg n s)) F2) (U6 (J8 p F2) (dg mm s)) F2).row)] (by kernel_rfl) (fun W hW=>⟨(aB.drew.bl hW),(aC.drew.bl hW),(aE.drew.bl hW)⟩) ?fK ?fL ?fM;case fK=>exact MO'
     case fL=>
      refine (Z3 ⟨?iF,(Z3 ⟨?iG,(Z3 ⟨?iH,(Z3 ⟨?iI,(Z3 ⟨?iJ,(Z3 ⟨?fN,(Z3 ⟨?fO,(Z3 ⟨?fP,(Z3 ⟨?fQ,Zh⟩)⟩)⟩)⟩)⟩)⟩)⟩)⟩)⟩);case iF=>
       intro o ho us W hW hp Q' hQ';obtain rfl:=Option.some.inj ho;clear hp ho;rw[C1]at hQ' ⊢;dsimp only[C7,E5,List.foldl,zv,za]at hQ' ⊢;simp only[Cy];have f0:=Bk.row64 (n:=20) (aA.drew.bl hW) ((Ei (Eo n p mm m) 4).row);go_wp2_with fail;exact Ea (hQ' _ _ (Below.refl _ _) rfl nofun)
      case iG=>exact KC' fun W=>Wb n hn s (by omega) W
      case iH=>intro o ho us W hW hp Q' hQ';obtain rfl:=Option.some.inj ho;have dZ:us 3=(.int .u8 ((dg n s:Nat):Int)):=hp 1 _ rfl (by kernel_rfl);clear hp ho;rw[C1]at hQ' ⊢;dsimp only[C7,E5,List.foldl,zv,za]at hQ' ⊢;simp only[Cy];rw[dZ]at hQ' ⊢;clear dZ;go_wp2_with fail;exact Ea (hQ' _ _ (Below.refl _ _) rfl nofun)
      case iI=>intro o ho us W hW hp Q' hQ';obtain rfl:=Option.some.inj ho;have iK:us 4=(.pointer (some ⟨p9,(dg n s)*20,none⟩)):=hp 2 _ rfl (by kernel_rfl);clear hp ho;rw[C1]at hQ' ⊢;dsimp only[C7,E5,List.foldl,zv,za]at hQ' ⊢;simp only[Cy];rw[iK]at hQ' ⊢;clear iK;have f5:=show C8 _ ⟨_,(dg n s)*20,none⟩ 20=some (C9 (U6 (J8 C3 F2) (dg n s)).row) from Bk.plAt (i:=(dg n s)) (aG.drew.bl hW) (Am Bx F2) (by simp;try omega);go_wp2_with fail;exact Ea (hQ' _ _ (Below.refl _ _) rfl nofun)
      case iJ=>intro o ho us W hW hp Q' hQ';obtain rfl:=Option.some.inj ho;have dF:us 0=(H8 (Cq 4 (Ce n p mm m)).row):=hp 0 _ rfl (by kernel_rfl);have dZ:us 3=(.int .u8 ((dg n s:Nat):Int)):=hp 1 _ rfl (by kernel_rfl);have dG:us 5=(H8 (U6 (J8 C3 F2) (dg n s)).row):=hp 3 _ rfl (by kernel_rfl);clear hp ho;rw[C1]at hQ' ⊢;dsimp only[C7,E5,List.foldl,zv,za]at hQ' ⊢;simp only[Cy];rw[dF,dZ,dG]at hQ' ⊢;clear dF dZ dG;go_wp2_with fail;refine (Uc (Cq 4 (Ce n p mm m)) (U6 (J8 C3 F2) (dg n s)) F2 (Ei (Eo n p mm m) 4) ((Am Bx F2).at (dg n s)) O7 W).mono ?_;rintro e W2 ⟨rfl,b2⟩;go_wp2_with fail;exact Ea (hQ' _ _ b2 rfl nofun)
      case fN=>intro o ho us W hW hp Q' hQ';obtain rfl:=Option.some.inj ho;have aV:us 7=(H8 (Ac (Cq 4 (Ce n p mm m)) (U6 (J8 C3 F2) (dg n s)) F2).row):=hp 4 _ rfl (by kernel_rfl);clear hp ho;rw[C1]at hQ' ⊢;dsimp only[C7,E5,List.foldl,zv,za]at hQ' ⊢;simp only[Cy];rw[aV]at hQ' ⊢;clear aV;go_wp2_with fail;refine (Wb mm hmm s (by omega) W).mono ?_;rintro e W2 ⟨rfl,b2⟩;go_wp2_with fail;exact Ea (hQ' _ _ b2 rfl nofun)
      case fO=>intro o ho us W hW hp Q' hQ';obtain rfl:=Option.some.inj ho;have aT:us 10=(.int .u8 ((dg mm s:Nat):Int)):=hp 5 _ rfl (by kernel_rfl);clear hp ho;rw[C1]at hQ' ⊢;dsimp only[C7,E5,List.foldl,zv,za]at hQ' ⊢;simp only[Cy];rw[aT]at hQ' ⊢;clear aT;go_wp2_with fail;exact Ea (hQ' _ _ (Below.refl _ _) rfl nofun)
      case fP=>intro o ho us W hW hp Q' hQ';obtain rfl:=Option.some.inj ho;have cO:us 11=(.pointer (some ⟨eS,(dg mm s)*20,none⟩)):=hp 6 _ rfl (by kernel_rfl);clear hp ho;rw[C1]at hQ' ⊢;dsimp only[C7,E5,List.foldl,zv,za]at hQ' ⊢;simp only[Cy];rw[cO]at hQ' ⊢;clear cO;have kU:=show C8 _ ⟨_,(dg mm s)*20,none⟩ 20=some (C9 (U6 (J8 p F2) (dg mm s)).row) from Bk.plAt (i:=(dg mm s)) (aH.drew.bl hW) (Am hp F2) (by simp;try omega);go_wp2_with fail;exact Ea (hQ' _ _ (Below.refl _ _) rfl nofun)
      case fQ=>intro o ho us W hW hp Q' hQ';obtain rfl:=Option.some.inj ho;have aV:us 7=(H8 (Ac (Cq 4 (Ce n p mm m)) (U6 (J8 C3 F2) (dg n s)) F2).row):=hp 4 _ rfl (by kernel_rfl);have aT:us 10=(.int .u8 ((dg mm s:Nat):Int)):=hp 5 _ rfl (by kernel_rfl);have cP:us 12=(H8 (U6 (J8 p F2) (dg mm s)).row):=hp 7 _ rfl (by kernel_rfl);clear hp ho;rw[C1]at hQ' ⊢;dsimp only[C7,E5,List.foldl,zv,za]at hQ' ⊢;simp only[Cy];rw[aV,aT,cP]at hQ' ⊢;clear aV aT cP;go_wp2_with fail;refine (Uc (Ac (Cq 4 (Ce n p mm m)) (U6 (J8 C3 F2) (dg n s)) F2) (U6 (J8 p F2) (dg mm s)) F2 (Ej (Cq 4 (Ce n p mm m)) (U6 (J8 C3 F2) (dg n s)) F2) ((Am hp F2).at (dg mm s)) O7 W).mono ?_;rintro e W2 ⟨rfl,b2⟩;go_wp2_with fail;exact Ea (hQ' _ _ b2 rfl nofun)
     case fM=>
     intro us kI jQ hg cU gK;have dF:us 0=(H8 (Cq 4 (Ce n p mm m)).row):=hg _ (Ca 0 rfl);have dZ:us 3=(.int .u8 ((dg n s:Nat):Int)):=hg _ (Ca 1 rfl);have iK:us 4=(.pointer (some ⟨p9,(dg n s)*20,none⟩)):=hg _ (Ca 2 rfl);have dG:us 5=(H8 (U6 (J8 C3 F2) (dg n s)).row):=hg _ (Ca 3 rfl);have aV:us 7=(H8 (Ac (Cq 4 (Ce n p mm m)) (U6 (J8 C3 F2) (dg n s)) F2).row):=hg _ (Ca 4 rfl);have aT:us 10=(.int .u8 ((dg mm s:Nat):Int)):=hg _ (Ca 5 rfl);have cO:us 11=(.pointer (some ⟨eS,(dg mm s)*20,none⟩)):=hg _ (Ca 6 rfl);have cP:us 12=(H8 (U6 (J8 p F2) (dg mm s)).row):=hg _ (Ca 7 rfl);have iL:us 14=(H8 (Ac (Ac (Cq 4 (Ce n p mm m)) (U6 (J8 C3 F2) (dg n s)) F2) (U6 (J8 p F2) (dg mm s)) F2).row):=hg _ (Ca 8 rfl);have cQ:=Q5 jP jQ;refine RP' ?_;rw[dF,dZ,iK,dG,aV,aT,cO,cP,iL];clear hg cU gK dF dZ iK dG aV aT cO cP iL jQ jP;have jR:=Q5 dO cQ;have jS:=Nat.le_trans cV cQ.size;have eA:=aB.bl cQ;have eB:=aO.bl cQ;have eC:=aC.bl cQ;have eD:=aD.bl cQ;have eE:=aE.bl cQ;have eF:=aG.bl cQ;have eG:=aH.bl cQ;have aX:=aA.bl cQ;clear cQ dO cV aB aO aC aD aE aG aH aA;obtain⟨kJ,aK⟩:=E9 (C4 kI ⟨fY,0,none⟩ (C9 (Ac (Ac (Cq 4 (Ce n p mm m)) (U6 (J8 C3 F2) (dg n s)) F2) (U6 (J8 p F2) (dg mm s)) F2).row))
     have fR:Bk kJ (fY) 140 (C9 (Ac (Ac (Cq 4 (Ce n p mm m)) (U6 (J8 C3 F2) (dg n s)) F2) (U6 (J8 p F2) (dg mm s)) F2).row):=by rw[aK];exact Bk.put64 (aX) ((Ei (Eo n p mm m) 4).row) ((Ej (Ac (Cq 4 (Ce n p mm m)) (U6 (J8 C3 F2) (dg n s)) F2) (U6 (J8 p F2) (dg mm s)) F2).row)
     have eH:=U1 aK eA (by omega);have iM:=U1 aK eB (by omega);have eI:=U1 aK eC (by omega);have iN:=U1 aK eD (by omega);have eJ:=U1 aK eE (by omega);have iO:=U1 aK eF (by omega);have iP:=U1 aK eG (by omega);have kK:=Iu aK jR (by omega);have fS:=Uh 20 aX ((Ei (Eo n p mm m) 4).row);have fT:(Ac (Ac (Cq 4 (Ce n p mm m)) (U6 (J8 C3 F2) (dg n s)) F2) (U6 (J8 p F2) (dg mm s)) F2).row.length=20:=(Ej (Ac (Cq 4 (Ce n p mm m)) (U6 (J8 C3 F2) (dg n s)) F2) (U6 (J8 p F2) (dg mm s)) F2).row;refine Ci 15 fun Q' hQ'=>?_;dsimp only[C7];go_wp2_with fail;rw[←aK];refine hQ' _ _ ⟨eH,eI,eJ⟩ ?_;clear hQ' fS fT;have kL:=ZP' aK jS;clear aK jR jS eA eB eC eD eE eF eG aX;refine It ?_;go_wp2_with fail;go_roundw;case rel=>exact ⟨m+1,by omega,by omega,by rw[←ES.out];all_goals (simp<;>omega),eH,iM,eI,iN,eJ,iO,iP,(by rw[HM.out];exact fR),kK,kL⟩
     case measure=>have:=ES.out;simp[intOf]<;>omega
  ·
   obtain rfl:m=64:=by omega
   obtain⟨kV,cR⟩:=E9 (C4 wr ⟨w.heap.size+3,0,none⟩ (C9 (Ce n p mm 64).row));have fU:=Zx 20 cR aD (by simp) ((Eo n p mm 64).row);have jC:=Iu cR dO (by omega);have kM:=Bk.row64 (n:=20) (aA) ((Eo n p mm 64).row);have fV:=Uh 20 aD (by simp);have aU:(Ce n p mm 64).row.length=20:=(Eo n p mm 64).row;go_wp2_with fail;rw[←cR];clear kM fV aU;have kN:=ZP' cR cV;clear cR cV;have jD:(Ce n p mm 64).row.length=20:=(Eo n p mm 64).row;refine bodyPost_ret (C5 rfl _ _ _ _ _ _ rfl fU Jd rfl (by simp[Tm,jD])) rfl ⟨rfl,jC⟩
end Go.Proofs.YtlegpkdighoflaaGreat
