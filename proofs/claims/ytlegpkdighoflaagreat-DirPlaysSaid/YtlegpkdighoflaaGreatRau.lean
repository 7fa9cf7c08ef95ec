/- A part of the proof of DirPlays. -/
import Derived.Test.YtlegpkdighoflaaGreatRat
set_option linter.unusedVariables false
set_option linter.unusedSimpArgs false
set_option maxRecDepth 100000
set_option maxHeartbeats 40000000
namespace Go.Proofs.YtlegpkdighoflaaGreat
open Go Go.RowKit Sh
section
def gPt (t:TypeId):Option (List Nat):=if t=140 then some [5,5,5,5] else none
def Pn.val (p:Pn):Value:=.agg (C9 p.x++(C9 p.y++(C9 p.z++C9 p.t))).toArray
theorem Pn.seg (p:Pn):J3 p.row=p.val:=by
 unfold J3 Pn.val Pn.row Rq C9;simp
def Pn.av (p:Pn) (h:p.Ok):List Av:=[av64 p.x 5 h.x,av64 p.y 5 h.y,av64 p.z 5 h.z,av64 p.t 5 h.t]
section
variable {f : FuncId} {args : Array Value}
def dP {p:Pn} (h:∀W,Calls Tryz.prog f args W fun e W'=>e=.returned p.val∧Below W.heap.size W W') (hp:p.Ok):DC Tryz.prog:=⟨.call f args p.val,h,p.av hp⟩
end
theorem size_u8 (w:World):(sizeOf 5).run Tryz.prog w=.ok 1 w:=by
 have hi:(Tryz.prog.info? 5).map (·.size)=some 1:=by kernel_rfl
 cases hq:Tryz.prog.info? 5 with
 | none=>simp[hq]at hi
 | some j=>simp[hq]at hi;simp[sizeOf,typeInfo,hq,hi]
theorem run_eqB (l m:List UInt8) (hl:l.length=32) (hm:m.length=32) (X Y:Operand) (W:World):(do eqGuard .eql 23 X Y (A8 l) (A8 m);binOp .eql 23 (A8 l) (A8 m):Sem Value).run Tryz.prog W=.ok (.bool (l==m)) W:=by
 have aA:(eqGuard .eql 23 X Y (A8 l) (A8 m)).run Tryz.prog W=.ok () W:=run_eqGuard_agg (P:=Tryz.prog) W .eql 23 X Y _ _ (by kernel_rfl);have e1:(binOp .eql 23 (A8 l) (A8 m)).run Tryz.prog W=.ok (.bool (l==m)) W:=run_eql_bytes (P:=Tryz.prog) W 23 5 32 Tryz.underlying23 Tryz.underlying5 size_u8 l m hl hm;simp only[Sem.run_bind,aA,Result.andThen_ok,e1]
theorem run_neB (l m:List UInt8) (hl:l.length=32) (hm:m.length=32) (X Y:Operand) (W:World):(do eqGuard .neq 23 X Y (A8 l) (A8 m);binOp .neq 23 (A8 l) (A8 m):Sem Value).run Tryz.prog W=.ok (.bool (!(l==m))) W:=by
 have aA:(eqGuard .neq 23 X Y (A8 l) (A8 m)).run Tryz.prog W=.ok () W:=run_eqGuard_agg (P:=Tryz.prog) W .neq 23 X Y _ _ (by kernel_rfl);have e1:(binOp .neq 23 (A8 l) (A8 m)).run Tryz.prog W=.ok (.bool (!(l==m))) W:=by rw[A8,A8,run_neq_struct];exact congrArg (fun r:Result Bool=>r.andThen fun b w'=>Result.ok (Value.bool (!b)) w') (run_equalIn_bytes (P:=Tryz.prog) W 9998 23 5 32 Tryz.underlying23 Tryz.underlying5 size_u8 l m hl hm)
 simp only[Sem.run_bind,aA,Result.andThen_ok,e1]
def dEq (l m:List UInt8) (hl:l.length=32) (hm:m.length=32) {b:Bool} (hb:(l==m)=b):DC Tryz.prog:=⟨.bin .eql 23 (A8 l) (A8 m) (.bool b),by rw[←hb];exact run_eqB l m hl hm,[av1 (.bool b) rfl]⟩
def dNe (l m:List UInt8) (hl:l.length=32) (hm:m.length=32) {b:Bool} (hb:(l==m)=b):DC Tryz.prog:=⟨.bin .neq 23 (A8 l) (A8 m) (.bool (!b)),by rw[←hb];exact run_neB l m hl hm,[av1 (.bool (!b)) rfl]⟩
def dO8 {op:BinOp} {x y v:Value} (h:∀W,(binOp op 5 x y).run Tryz.prog W=.ok v W) (hg:∀(X Y:Operand) W,(eqGuard op 5 X Y x y).run Tryz.prog W=.ok () W) (ho:v.oneCell'=true):DC Tryz.prog:=
 ⟨.bin op 5 x y v,fun X Y W=>by simp only[Sem.run_bind,hg X Y W,Result.andThen_ok,h W],[av1 v ho]⟩
def dOr (x y:UInt8):DC Tryz.prog:=dO8 (op:=.or) (x:=.int .u8 (n8 x)) (y:=.int .u8 (n8 y)) (v:=.int .u8 (n8 (x ||| y))) (fun W=>by rw[show binOp .or 5 (.int .u8 (n8 x)) (.int .u8 (n8 y))=Op.intBits .or .u8 (n8 x) (n8 y) from rfl,or8];rfl) (fun _ _ _=>rfl) rfl
def dAnd (x y:UInt8):DC Tryz.prog:=dO8 (op:=.and) (x:=.int .u8 (n8 x)) (y:=.int .u8 (n8 y)) (v:=.int .u8 (n8 (x &&& y))) (fun W=>by rw[show binOp .and 5 (.int .u8 (n8 x)) (.int .u8 (n8 y))=Op.intBits .and .u8 (n8 x) (n8 y) from rfl,D0i];rfl) (fun _ _ _=>rfl) rfl
def dShr (x:UInt8) (k:IntKind) (s:Nat) (hs:s<8):DC Tryz.prog:=dO8 (op:=.shr) (x:=.int .u8 (n8 x)) (y:=.int k (s:Int)) (v:=.int .u8 (n8 (x >>> UInt8.ofNat s))) (fun W=>by rw[show binOp .shr 5 (.int .u8 (n8 x)) (.int k (s:Int))=Op.shift .shr .u8 (n8 x) k (s:Int) from rfl,A0h x k s hs];rfl) (fun _ _ _=>rfl) rfl
def dEq8 (x y:UInt8) {b:Bool} (hb:(x==y)=b):DC Tryz.prog:=dO8 (op:=.eql) (x:=.int .u8 (n8 x)) (y:=.int .u8 (n8 y)) (v:=.bool b) (fun W=>by rw[show binOp .eql 5 (.int .u8 (n8 x)) (.int .u8 (n8 y))=pure (.bool (n8 x==n8 y)) from rfl,Qg,hb];rfl) (fun _ _ _=>rfl) rfl
def b31 (l:List UInt8) (x:UInt8):Value:=.agg (c8 (l.take 31)++c8 [x]).toArray
theorem split31 {l:List UInt8} (hl:l.length=32):A8 l=b31 l (Sh.g8 l 31):=by
 have h1:l=l.take 31++[Sh.g8 l 31]:=by
  conv=>lhs;rw[←List.take_append_drop 31 l]
  congr 1;rw[List.drop_eq_getElem_cons (by omega),List.drop_eq_nil_of_le (by omega)];simp[Sh.g8,List.getD_eq_getElem?_getD,hl]
 unfold A8 b31;conv=>lhs;rw[h1]
 simp[c8]
theorem set31 {l:List UInt8} (hl:l.length=32) (x:UInt8):A8 (l.set 31 x)=b31 l x:=by
 rw[split31 (by simpa using hl)];unfold b31;rw[List.take_set_of_le (by omega)];simp[Sh.g8,List.getD_eq_getElem?_getD,hl]
def dH31 {f:FuncId} {args:Array Value} {l:List UInt8} (h:∀W,Calls Tryz.prog f args W fun e W'=>e=.returned (A8 l)∧Below W.heap.size W W') (hl:l.length=32):DC Tryz.prog:=
 ⟨.call f args (b31 l (Sh.g8 l 31)),by rw[←split31 hl];exact h,[av8 (l.take 31) 31 (by simp[hl]),av8 [Sh.g8 l 31] 1 rfl]⟩
def dEq31 (l m:List UInt8) (hl:l.length=32) (hm:m.length=32) {b:Bool} (hb:(l==m)=b):DC Tryz.prog:=⟨.bin .eql 23 (b31 l (Sh.g8 l 31)) (b31 m (Sh.g8 m 31)) (.bool b),by rw[←hb,←split31 hl,←split31 hm];exact run_eqB l m hl hm,[av1 (.bool b) rfl]⟩
def gB (t:TypeId):Option (List Nat):=if t=23 then some [31,1] else gPt t
end
section
set_option maxRecDepth 100000
theorem B0k (a:List UInt64) (ha:a.length=5) (w:World):Calls Tryz.prog 129 #[J3 a] w fun e w'=>e=.returned (.tuple #[J3 (Ge a),J3 (Gx a)])∧Below w.heap.size w w':=by
 let sq:=fun (n:Nat) (hn:n≤1000000) (x:List UInt64) (hx:x.length=5)=>dE (Eb x hx n hn) (B0j hx n)
 let mul:=fun (x y:List UInt64) (hx:x.length=5) (hy:y.length=5)=>dE (P9 x y hx hy) rfl
 let u:=C4 (Ct 20 (Rn a)) (Rn a)
 let v:=C4 (Ct 100 (Ky a)) (Ky a)
 exact sx_fun (g:=gPt) 60 [av64 a 5 ha]
  [dE (Ui a ha) rfl,sq 2 (by decide) (Rp a) rfl,mul (Ct 2 (Rp a)) a rfl ha,mul (Jd a) (Rp a) rfl rfl,dE (Ui (Gx a) rfl) rfl,mul (Rp (Gx a)) (Jd a) rfl rfl,
   sq 5 (by decide) (f5 a) rfl,mul (Ct 5 (f5 a)) (f5 a) rfl rfl,sq 10 (by decide) (f10 a) rfl,mul (Ct 10 (f10 a)) (f10 a) rfl rfl,sq 20 (by decide) (Rn a) rfl,mul (Ct 20 (Rn a)) (Rn a) rfl rfl,
   sq 10 (by decide) u rfl,mul (Ct 10 u) (f10 a) rfl rfl,sq 50 (by decide) (f50 a) rfl,mul (Ct 50 (f50 a)) (f50 a) rfl rfl,sq 100 (by decide) (Ky a) rfl,mul (Ct 100 (Ky a)) (Ky a) rfl rfl,sq 50 (by decide) v rfl,mul (Ct 50 v) (f50 a) rfl rfl]
  mixed Tryz.func129 (by kernel_rfl) w
theorem A9k (a:List UInt64) (ha:a.length=5) (w:World):Calls Tryz.prog 101 #[J3 a] w fun e w'=>e=.returned (J3 (Co a))∧Below w.heap.size w w':=
 sx_fun (g:=gPt) 60 [av64 a 5 ha] [dEE (B0k a ha) rfl rfl,dE (Eb (Ge a) rfl 5 (by decide)) rfl,dE (P9 (Ct 5 (Ge a)) (Gx a) rfl rfl) rfl] mixed Tryz.func101 (by kernel_rfl) w
end
section
def Cx (u v:List UInt64):List UInt64:=C4 u (Co v)
def Du (u v:List UInt64):List UInt64:=C4 (Ct 2 (Ge (Cx u v))) (Rp (Cx u v))
def B4x (x w:List UInt64):Bool:=U0 (C4 x x)==U0 w
def Oc (u v:List UInt64):List UInt64:=if B4x (Du u v) (Cx u v) then Du u v else C4 (Du u v) Hb
def A7o (x:List UInt64):List UInt64:=if A3l x then E8 (K9 5) x else x
def Fy (u v:List UInt64):Bool:=!(U0 v==z8 32)&&B4x (Oc u v) (Cx u v)
def Bm (u v:List UInt64):List UInt64:=if Fy u v then A7o (Oc u v) else K9 5
@[simp, go_sem] theorem D2k (u v : List UInt64) : (Cx u v).length = 5 := rfl
@[simp, go_sem] theorem C9r (u v : List UInt64) : (Du u v).length = 5 := rfl
theorem A5j (u v:List UInt64):(Oc u v).length=5:=by unfold Oc;split<;>rfl
theorem Av (u v:List UInt64):(Bm u v).length=5:=by
 unfold Bm A7o;split
 ·split
  ·rfl
  ·exact A5j u v
 ·rfl
theorem A8f {u v:List UInt64} (h:Fy u v=false):Bm u v=K9 5:=by unfold Bm;rw[if_neg (by rw[h];decide)]
theorem Xk {u v:List UInt64} (h:Fy u v=true):Bm u v=A7o (Oc u v):=by unfold Bm;rw[if_pos h]
set_option maxRecDepth 100000
theorem C1s (u v:List UInt64) (hu:u.length=5) (hv:v.length=5) (w:World):Calls Tryz.prog 141 #[J3 u,J3 v] w fun e w'=>e=.returned (.tuple #[J3 (Bm u v),.bool (Fy u v)])∧Below w.heap.size w w':=by
 have hh:∀x,(U0 x).length=32:=Cn;let hash:=fun (x:List UInt64) (hx:x.length=5)=>dH (Gh x hx) (hh x)
 let mul:=fun (x y:List UInt64) (hx:x.length=5) (hy:y.length=5)=>dE (P9 x y hx hy) rfl
 let W:=Cx u v
 let X:=Du u v
 cases h1:U0 v==z8 32
 ·let pre:=[hash v hv,dEq (U0 v) (z8 32) (hh v) rfl h1,dE (A9k v hv) rfl,mul u (Co v) hu rfl,dEE (B0k W rfl) rfl rfl,dE (Eb (Ge W) rfl 2 (by decide)) rfl,dE (Ui W rfl) rfl,mul (Ct 2 (Ge W)) (Rp W) rfl rfl,mul X X rfl rfl,hash (C4 X X) rfl,hash W rfl]
  cases h2:U0 (C4 X X)==U0 W
  ·let Y:=C4 X Hb
   have e2:Oc u v=Y:=by unfold Oc B4x;rw[h2];rfl
   let mid:=[dNe (U0 (C4 X X)) (U0 W) (hh _) (hh _) h2,dE Xp rfl,mul X Hb rfl rfl,mul Y Y rfl rfl,hash (C4 Y Y) rfl,hash W rfl]
   cases h3:U0 (C4 Y Y)==U0 W
   ·have hB:Fy u v=false:=by unfold Fy B4x;rw[e2,h1,h3];rfl
    rw[A8f hB,hB];exact sx_fun (g:=gPt) 60 [av64 u 5 hu,av64 v 5 hv] (pre++(mid++[dNe (U0 (C4 Y Y)) (U0 W) (hh _) (hh _) h3])) mixed Tryz.func141 (by kernel_rfl) w
   ·have hB:Fy u v=true:=by unfold Fy B4x;rw[e2,h1,h3];rfl
    rw[Xk hB,hB,e2];unfold A7o;cases h4:A3l Y
    ·exact sx_fun (g:=gPt) 60 [av64 u 5 hu,av64 v 5 hv] (pre++(mid++[dNe (U0 (C4 Y Y)) (U0 W) (hh _) (hh _) h3,dB (b:=false) (h4▸A2g Y rfl)])) mixed Tryz.func141 (by kernel_rfl) w
    ·exact sx_fun (g:=gPt) 60 [av64 u 5 hu,av64 v 5 hv] (pre++(mid++[dNe (U0 (C4 Y Y)) (U0 W) (hh _) (hh _) h3,dB (b:=true) (h4▸A2g Y rfl),dE (Hc (K9 5) Y rfl rfl) rfl])) mixed Tryz.func141 (by kernel_rfl) w
  ·have e2:Oc u v=X:=by unfold Oc B4x;rw[h2];rfl
   let mid:=[dNe (U0 (C4 X X)) (U0 W) (hh _) (hh _) h2,mul X X rfl rfl,hash (C4 X X) rfl,hash W rfl,dNe (U0 (C4 X X)) (U0 W) (hh _) (hh _) h2]
   have hB:Fy u v=true:=by unfold Fy B4x;rw[e2,h1,h2];rfl
   rw[Xk hB,hB,e2];unfold A7o;cases h4:A3l X
   ·exact sx_fun (g:=gPt) 60 [av64 u 5 hu,av64 v 5 hv] (pre++(mid++[dB (b:=false) (h4▸A2g X rfl)])) mixed Tryz.func141 (by kernel_rfl) w
   ·exact sx_fun (g:=gPt) 60 [av64 u 5 hu,av64 v 5 hv] (pre++(mid++[dB (b:=true) (h4▸A2g X rfl),dE (Hc (K9 5) X rfl rfl) rfl])) mixed Tryz.func141 (by kernel_rfl) w
 ·have hB:Fy u v=false:=by unfold Fy;rw[h1];rfl
  rw[A8f hB,hB];exact sx_fun (g:=gPt) 60 [av64 u 5 hu,av64 v 5 hv] [hash v hv,dEq (U0 v) (z8 32) (hh v) rfl h1] mixed Tryz.func141 (by kernel_rfl) w
end
section
def Ai (p q:Pn) (k:List UInt64):Pn:=
 let a:=C4 (E8 p.y p.x) (E8 q.y q.x)
 let b:=C4 (C8 p.y p.x) (C8 q.y q.x)
 let c:=C4 (C4 p.t k) q.t
 let d:=C4 p.z q.z
 let d2:=C8 d d
 let e:=E8 b a
 let f:=E8 d2 c
 let g:=C8 d2 c
 let h:=C8 b a
 ⟨C4 e f,C4 g h,C4 f g,C4 e h⟩
theorem Dw (p q:Pn) (k:List UInt64):(Ai p q k).Ok:=⟨rfl,rfl,rfl,rfl⟩
set_option maxRecDepth 100000
theorem pplus_v (p q:Pn) (k:List UInt64) (hp:p.Ok) (hq:q.Ok) (hk:k.length=5) (w:World):Calls Tryz.prog 98 #[p.val,q.val,J3 k] w fun e w'=>e=.returned (Ai p q k).val∧Below w.heap.size w w':=by
 let a:=C4 (E8 p.y p.x) (E8 q.y q.x)
 let b:=C4 (C8 p.y p.x) (C8 q.y q.x)
 let c:=C4 (C4 p.t k) q.t
 let d:=C8 (C4 p.z q.z) (C4 p.z q.z)
 exact sx_fun (g:=gPt) 60 (p.av hp++(q.av hq++[av64 k 5 hk]))
  [dE (Hc p.y p.x hp.y hp.x) rfl,dE (Hc q.y q.x hq.y hq.x) rfl,dE (P9 (E8 p.y p.x) (E8 q.y q.x) rfl rfl) rfl,
   dE (Jj p.y p.x hp.y hp.x) rfl,dE (Jj q.y q.x hq.y hq.x) rfl,dE (P9 (C8 p.y p.x) (C8 q.y q.x) rfl rfl) rfl,
   dE (P9 p.t k hp.t hk) rfl,dE (P9 (C4 p.t k) q.t rfl hq.t) rfl,
   dE (P9 p.z q.z hp.z hq.z) rfl,dE (Jj (C4 p.z q.z) (C4 p.z q.z) rfl rfl) rfl,
   dE (Hc b a rfl rfl) rfl,dE (Hc d c rfl rfl) rfl,dE (Jj d c rfl rfl) rfl,dE (Jj b a rfl rfl) rfl,
   dE (P9 (E8 b a) (E8 d c) rfl rfl) rfl,dE (P9 (C8 d c) (C8 b a) rfl rfl) rfl,dE (P9 (E8 d c) (C8 d c) rfl rfl) rfl,dE (P9 (E8 b a) (C8 b a) rfl rfl) rfl]
  mixed Tryz.func98 (by kernel_rfl) w
theorem Mv (p q:Pn) (k:List UInt64) (hp:p.Ok) (hq:q.Ok) (hk:k.length=5) (w:World):Calls Tryz.prog 98 #[J3 p.row,J3 q.row,J3 k] w fun e w'=>e=.returned (J3 (Ai p q k).row)∧Below w.heap.size w w':=by
 simp only[Pn.seg];exact pplus_v p q k hp hq hk w
end
section
def Mg (p:Pn):Pn:=
 let a:=C4 p.x p.x
 let b:=C4 p.y p.y
 let c:=C4 p.z p.z
 let h:=C8 a b
 let s:=C8 p.x p.y
 let e:=E8 h (C4 s s)
 let g:=E8 a b
 let f:=C8 (C8 c c) g
 ⟨C4 e f,C4 g h,C4 f g,C4 e h⟩
theorem Jl (p:Pn):(Mg p).Ok:=⟨rfl,rfl,rfl,rfl⟩
set_option maxRecDepth 100000
theorem doubled_v (p:Pn) (hp:p.Ok) (w:World):Calls Tryz.prog 97 #[p.val] w fun e w'=>e=.returned (Mg p).val∧Below w.heap.size w w':=by
 let a:=C4 p.x p.x
 let b:=C4 p.y p.y
 let c:=C4 p.z p.z
 let h:=C8 a b
 let s:=C8 p.x p.y
 let e:=E8 h (C4 s s)
 let g:=E8 a b
 let f:=C8 (C8 c c) g
 exact sx_fun (g:=gPt) 60 (p.av hp)
  [dE (P9 p.x p.x hp.x hp.x) rfl,dE (P9 p.y p.y hp.y hp.y) rfl,dE (P9 p.z p.z hp.z hp.z) rfl,dE (Jj a b rfl rfl) rfl,dE (Jj p.x p.y hp.x hp.y) rfl,
   dE (P9 s s rfl rfl) rfl,dE (Hc h (C4 s s) rfl rfl) rfl,dE (Hc a b rfl rfl) rfl,dE (Jj c c rfl rfl) rfl,dE (Jj (C8 c c) g rfl rfl) rfl,
   dE (P9 e f rfl rfl) rfl,dE (P9 g h rfl rfl) rfl,dE (P9 f g rfl rfl) rfl,dE (P9 e h rfl rfl) rfl]
  mixed Tryz.func97 (by kernel_rfl) w
theorem Sa (p:Pn) (hp:p.Ok) (w:World):Calls Tryz.prog 97 #[J3 p.row] w fun e w'=>e=.returned (J3 (Mg p).row)∧Below w.heap.size w w':=by
 simp only[Pn.seg];exact doubled_v p hp w
end
section
def Zr:List UInt8:=[163,120,89,19,202,77,235,117,171,216,65,65,77,10,112,0,152,232,121,119,121,64,199,140,115,254,111,43,238,108,3,82]
@[simp, go_sem] theorem B3e : Zr.length = 32 := rfl
attribute [irreducible] Zr
def Py:List UInt8:=[89,241,178,38,148,155,214,235,86,177,131,130,154,20,224,0,48,209,243,238,242,128,142,25,231,252,223,86,220,217,6,36]
@[simp, go_sem] theorem A7n : Py.length = 32 := rfl
attribute [irreducible] Py
def Mb:List UInt8:=[26,213,37,143,96,45,86,201,178,167,37,149,96,199,44,105,92,220,214,253,49,226,164,192,254,83,110,205,211,54,105,33]
@[simp, go_sem] theorem A8p : Mb.length = 32 := rfl
attribute [irreducible] Mb
def Ma:List UInt8:=[88,102,102,102,102,102,102,102,102,102,102,102,102,102,102,102,102,102,102,102,102,102,102,102,102,102,102,102,102,102,102,102]
@[simp, go_sem] theorem A9e : Ma.length = 32 := rfl
attribute [irreducible] Ma
def Ea:Pn:=⟨K9 5,K9 5,K9 5,K9 5⟩
theorem Gm:Ea.Ok:=⟨by simp[Ea],by simp[Ea],by simp[Ea],by simp[Ea]⟩
def Aj (x y:List UInt64):Pn:=⟨x,y,E4 1,C4 x y⟩
theorem Az {x y:List UInt64} (hx:x.length=5) (hy:y.length=5):(Aj x y).Ok:=⟨hx,hy,rfl,rfl⟩
def Ib:List UInt64:=C6 Zr
def M7:List UInt64:=C6 Py
@[simp, go_sem] theorem B4a : Ib.length = 5 := H9 _
@[simp, go_sem] theorem Z2 : M7.length = 5 := H9 _
def E3 (p:Pn):Pn:=if p.row==K9 20 then Aj (E4 0) (E4 1) else p
theorem N8 {p:Pn} (hp:p.Ok):(E3 p).Ok:=by
 unfold E3;split
 ·exact Az rfl rfl
 ·exact hp
def F8:Pn:=Aj (C6 Mb) (C6 Ma)
theorem Dy:F8.Ok:=Az (H9 _) (H9 _)
def A7u (p q:Pn):Pn:=Ai (E3 p) (E3 q) M7
def Nm (p:Pn):Pn:=⟨E8 (E4 0) (E3 p).x,(E3 p).y,(E3 p).z,E8 (E4 0) (E3 p).t⟩
theorem A8o (p q:Pn):(A7u p q).Ok:=Dw _ _ _
theorem D3b {p:Pn} (hp:p.Ok):(Nm p).Ok:=⟨rfl,(N8 hp).y,(N8 hp).z,rfl⟩
set_option maxRecDepth 100000
theorem affine_v (x y:List UInt64) (hx:x.length=5) (hy:y.length=5) (w:World):Calls Tryz.prog 92 #[J3 x,J3 y] w fun e w'=>e=.returned (Aj x y).val∧Below w.heap.size w w':=
 sx_fun (g:=gPt) 60 [av64 x 5 hx,av64 y 5 hy] [dE (Nd 1) rfl,dE (P9 x y hx hy) rfl] mixed Tryz.func92 (by kernel_rfl) w
theorem Nk (x y:List UInt64) (hx:x.length=5) (hy:y.length=5) (w:World):Calls Tryz.prog 92 #[J3 x,J3 y] w fun e w'=>e=.returned (J3 (Aj x y).row)∧Below w.heap.size w w':=by
 simp only[Pn.seg];exact affine_v x y hx hy w
theorem Jv (b:List UInt8) (hb:b.length=32) (w:World):Calls Tryz.prog 93 #[A8 b] w fun e w'=>e=.returned (J3 (C6 b))∧Below w.heap.size w w':=
 sx_fun (g:=gPt) 60 [av8 b 32 hb] [dEB (B3n b hb) (H9 b)] mixed Tryz.func93 (by kernel_rfl) w
theorem D2v (w:World):Calls Tryz.prog 142 #[] w fun e w'=>e=.returned (J3 Ib)∧Below w.heap.size w w':=
 sx_fun (g:=gPt) 60 [] [dE (Jv Zr B3e) (H9 _)] mixed Tryz.func142 (by kernel_rfl) w
theorem Xs (w:World):Calls Tryz.prog 95 #[] w fun e w'=>e=.returned (J3 M7)∧Below w.heap.size w w':=
 sx_fun (g:=gPt) 60 [] [dE (Jv Py A7n) (H9 _)] mixed Tryz.func95 (by kernel_rfl) w
theorem base_v (w:World):Calls Tryz.prog 65 #[] w fun e w'=>e=.returned F8.val∧Below w.heap.size w w':=
 sx_fun (g:=gPt) 60 [] [dE (Jv Mb A8p) (H9 _),dE (Jv Ma A9e) (H9 _),dP (affine_v (C6 Mb) (C6 Ma) (H9 _) (H9 _)) Dy] mixed Tryz.func65 (by kernel_rfl) w
theorem Sd (w:World):Calls Tryz.prog 65 #[] w fun e w'=>e=.returned (J3 F8.row)∧Below w.heap.size w w':=by
 simp only[Pn.seg];exact base_v w
theorem run_eqP (p q:Pn) (hp:p.Ok) (hq:q.Ok) (X Y:Operand) (W:World):(do eqGuard .eql 140 X Y p.val q.val;binOp .eql 140 p.val q.val:Sem Value).run Tryz.prog W=.ok (.bool (p.row==q.row)) W:=by
 rw[←Pn.seg,←Pn.seg];have aA:(eqGuard .eql 140 X Y (J3 p.row) (J3 q.row)).run Tryz.prog W=.ok () W:=run_eqGuard_agg (P:=Tryz.prog) W .eql 140 X Y _ _ (by kernel_rfl);have e1:(binOp .eql 140 (J3 p.row) (J3 q.row)).run Tryz.prog W=.ok (.bool (p.row==q.row)) W:=by
  rw[J3,J3,run_eql_struct];exact congrArg (fun r:Result Bool=>r.andThen fun b w'=>Result.ok (Value.bool b) w') (B6m 9996 W p.row q.row hp.row hq.row)
 simp only[Sem.run_bind,aA,Result.andThen_ok,e1]
def dEqP (p q:Pn) (hp:p.Ok) (hq:q.Ok) {b:Bool} (hb:(p.row==q.row)=b):DC Tryz.prog:=⟨.bin .eql 140 p.val q.val (.bool b),by rw[←hb];exact run_eqP p q hp hq,[av1 (.bool b) rfl]⟩
theorem right_v (p:Pn) (hp:p.Ok) (w:World):Calls Tryz.prog 100 #[p.val] w fun e w'=>e=.returned (E3 p).val∧Below w.heap.size w w':=by
 unfold E3;cases h:p.row==K9 20
 ·exact sx_fun (g:=gPt) 60 (p.av hp) [dEqP p Ea hp Gm h] mixed Tryz.func100 (by kernel_rfl) w
 ·exact sx_fun (g:=gPt) 60 (p.av hp) [dEqP p Ea hp Gm h,dE (Nd 0) rfl,dE (Nd 1) rfl,dP (affine_v (E4 0) (E4 1) rfl rfl) (Az rfl rfl)] mixed Tryz.func100 (by kernel_rfl) w
theorem Ku (p:Pn) (hp:p.Ok) (w:World):Calls Tryz.prog 100 #[J3 p.row] w fun e w'=>e=.returned (J3 (E3 p).row)∧Below w.heap.size w w':=by
 simp only[Pn.seg];exact right_v p hp w
theorem padd_v (p q:Pn) (hp:p.Ok) (hq:q.Ok) (w:World):Calls Tryz.prog 143 #[p.val,q.val] w fun e w'=>e=.returned (A7u p q).val∧Below w.heap.size w w':=
 sx_fun (g:=gPt) 60 (p.av hp++q.av hq) [dP (right_v p hp) (N8 hp),dP (right_v q hq) (N8 hq),dE Xs Z2,dP (pplus_v (E3 p) (E3 q) M7 (N8 hp) (N8 hq) Z2) (Dw _ _ _)] mixed Tryz.func143 (by kernel_rfl) w
theorem neg_v (p:Pn) (hp:p.Ok) (w:World):Calls Tryz.prog 117 #[p.val] w fun e w'=>e=.returned (Nm p).val∧Below w.heap.size w w':=
 sx_fun (g:=gPt) 60 (p.av hp) [dP (right_v p hp) (N8 hp),dE (Nd 0) rfl,dE (Hc (E4 0) (E3 p).x rfl (N8 hp).x) rfl,dE (Hc (E4 0) (E3 p).t rfl (N8 hp).t) rfl] mixed Tryz.func117 (by kernel_rfl) w
theorem D0y (p:Pn) (hp:p.Ok) (w:World):Calls Tryz.prog 117 #[J3 p.row] w fun e w'=>e=.returned (J3 (Nm p).row)∧Below w.heap.size w w':=by
 simp only[Pn.seg];exact neg_v p hp w
end
section
def B2w (q:Pn) (i:List UInt64):List UInt8:=if A3l (C4 q.x i) then (U0 (C4 q.y i)).set 31 (g8 (U0 (C4 q.y i)) 31 ||| 128) else U0 (C4 q.y i)
def J8 (p:Pn):List UInt8:=B2w (E3 p) (Co (E3 p).z)
@[simp, go_sem] theorem Q5 (p : Pn) : (J8 p).length = 32 := by unfold J8 B2w; split <;> simp
theorem B9v {p:Pn} (h:A3l (C4 (E3 p).x (Co (E3 p).z))=true):J8 p=(U0 (C4 (E3 p).y (Co (E3 p).z))).set 31 (g8 (U0 (C4 (E3 p).y (Co (E3 p).z))) 31 ||| 128):=by unfold J8 B2w;rw[if_pos h]
theorem C8n {p:Pn} (h:A3l (C4 (E3 p).x (Co (E3 p).z))=false):J8 p=U0 (C4 (E3 p).y (Co (E3 p).z)):=by unfold J8 B2w;rw[if_neg (by rw[h];decide)]
set_option maxRecDepth 100000
theorem phash_v (p:Pn) (hp:p.Ok) (w:World):Calls Tryz.prog 67 #[p.val] w fun e w'=>e=.returned (A8 (J8 p))∧Below w.heap.size w w':=by
 let q:=E3 p
 have hq:q.Ok:=N8 hp;let i:=Co q.z
 let l:=U0 (C4 q.y i)
 have hl:l.length=32:=Cn _;let pre:=[dP (right_v p hp) hq,dE (A9k q.z hq.z) rfl,dE (P9 q.y i hq.y rfl) rfl,dH31 (Gh (C4 q.y i) rfl) hl,dE (P9 q.x i hq.x rfl) rfl]
 cases h:A3l (C4 q.x i)
 ·rw[C8n h,split31 hl];exact sx_fun (g:=gB) 60 (p.av hp) (pre++[dB (b:=false) (h▸A2g (C4 q.x i) rfl)]) mixed Tryz.func67 (by kernel_rfl) w
 ·rw[B9v h,set31 hl];exact sx_fun (g:=gB) 60 (p.av hp) (pre++[dB (b:=true) (h▸A2g (C4 q.x i) rfl),dOr (g8 l 31) 128]) mixed Tryz.func67 (by kernel_rfl) w
theorem Qb (p:Pn) (hp:p.Ok) (w:World):Calls Tryz.prog 67 #[J3 p.row] w fun e w'=>e=.returned (A8 (J8 p))∧Below w.heap.size w w':=by
 rw[Pn.seg];exact phash_v p hp w
end
section
def H7 (b:List UInt8):List UInt8:=b.set 31 (g8 b 31 &&& 127)
theorem A0m {b:List UInt8} (h:b.length=32):(H7 b).length=32:=by unfold H7;rw[List.length_set];exact h
def Zw (b:List UInt8):List UInt64:=C6 (H7 b)
theorem A0g (b:List UInt8):(Zw b).length=5:=H9 _
def B1b (b:List UInt8):List UInt64:=E8 (C4 (Zw b) (Zw b)) (E4 1)
def B0o (b:List UInt8):List UInt64:=C8 (C4 (C4 (Zw b) (Zw b)) Ib) (E4 1)
def Yw (b:List UInt8):List UInt64:=Bm (B1b b) (B0o b)
def Nz (b:List UInt8):Bool:=g8 b 31 >>> 7==1
def Kd (b:List UInt8):Bool:=Ow (H7 b)&&(Fy (B1b b) (B0o b) && !(Nz b&&U0 (Yw b)==z8 32))
def Fr (b:List UInt8):Pn:=if Kd b then Aj (if Nz b then E8 (E4 0) (Yw b) else Yw b) (Zw b) else Ea
def A1d (b:List UInt8):Int:=if Kd b then 0 else 50
theorem Mq (b:List UInt8):(Fr b).Ok:=by
 unfold Fr;split
 ·refine Az ?_ (A0g b);split
  ·rfl
  ·exact Av _ _
 ·exact Gm
theorem A1h {b:List UInt8} (h:Kd b=false):Fr b=Ea∧A1d b=50:=by unfold Fr A1d;rw[if_neg (by rw[h];decide),if_neg (by rw[h];decide)];exact ⟨rfl,rfl⟩
theorem C9e {b:List UInt8} (h:Ow (H7 b)=false):Fr b=Ea∧A1d b=50:=A1h (by unfold Kd;rw[h];rfl)
theorem C5u {b:List UInt8} (h:Fy (B1b b) (B0o b)=false):Fr b=Ea∧A1d b=50:=A1h (by unfold Kd;rw[h];simp)
theorem C8p {b:List UInt8} (h:Nz b=true) (h2:(U0 (Yw b)==z8 32)=true):Fr b=Ea∧A1d b=50:=A1h (by unfold Kd;rw[h,h2];simp)
theorem C4u {b:List UInt8} (h0:Ow (H7 b)=true) (h1:Fy (B1b b) (B0o b)=true) (h:Nz b=false):Fr b=Aj (Yw b) (Zw b)∧A1d b=0:=by
 have e:Kd b=true:=by unfold Kd;rw[h0,h1,h];rfl
 unfold Fr A1d;rw[if_pos e,if_pos e,if_neg (by rw[h];decide)];exact ⟨rfl,rfl⟩
theorem C9u {b:List UInt8} (h0:Ow (H7 b)=true) (h1:Fy (B1b b) (B0o b)=true) (h:Nz b=true) (h2:(U0 (Yw b)==z8 32)=false):Fr b=Aj (E8 (E4 0) (Yw b)) (Zw b)∧A1d b=0:=by
 have e:Kd b=true:=by unfold Kd;rw[h0,h1,h,h2];rfl
 unfold Fr A1d;rw[if_pos e,if_pos e,if_pos h];exact ⟨rfl,rfl⟩
set_option maxRecDepth 100000
theorem decB31 {b:List UInt8} (hb:b.length=32):A8 (H7 b)=b31 b (g8 b 31 &&& 127):=set31 hb _
theorem B5d (b:List UInt8) (hb:b.length=32) (w:World):Calls Tryz.prog 113 #[A8 b] w fun e w'=>e=.returned (.tuple #[J3 (Fr b).row,.int .i64 (A1d b)])∧Below w.heap.size w w':=by
 rw[Pn.seg,split31 hb];let y:=Zw b
 have hy:=A0g b;let ρ:=[av8 (b.take 31) 31 (by simp[hb]),av8 [g8 b 31] 1 rfl]
 have aB:∀W,Calls Tryz.prog 125 #[b31 b (g8 b 31 &&& 127)] W fun e W'=>e=.returned (.tuple #[J3 y,.bool (Ow (H7 b))])∧Below W.heap.size W W':=by rw[←decB31 hb];exact B3n (H7 b) (A0m hb)
 have aA:=C1s (B1b b) (B0o b) rfl rfl;let mid:=[dE (P9 y y hy hy) rfl,dE (Nd 1) rfl,dE (Hc (C4 y y) (E4 1) rfl rfl) rfl,dE D2v B4a,dE (P9 (C4 y y) Ib rfl B4a) rfl,dE (Jj (C4 (C4 y y) Ib) (E4 1) rfl rfl) rfl]
 let x:=Yw b
 have hx:x.length=5:=Av _ _;cases ho:Nz b
 ·let pre:=[dShr (g8 b 31) .u64 7 (by decide),dEq8 (g8 b 31 >>> 7) 1 ho,dAnd (g8 b 31) 127]
  cases h0:Ow (H7 b)
  ·obtain⟨e1,e2⟩:=C9e h0;rw[e1,e2];exact sx_fun (g:=gB) 60 ρ (pre++[dEB (b:=false) (h0▸aB) hy]) mixed Tryz.func113 (by kernel_rfl) w
  ·cases h1:Fy (B1b b) (B0o b)
   ·obtain⟨e1,e2⟩:=C5u h1;rw[e1,e2];exact sx_fun (g:=gB) 60 ρ (pre++(dEB (b:=true) (h0▸aB) hy::(mid++[dEB (b:=false) (h1▸aA) hx]))) mixed Tryz.func113 (by kernel_rfl) w
   ·obtain⟨e1,e2⟩:=C4u h0 h1 ho;rw[e1,e2];exact sx_fun (g:=gB) 60 ρ (pre++(dEB (b:=true) (h0▸aB) hy::(mid++[dEB (b:=true) (h1▸aA) hx,dP (affine_v x y hx hy) (Az hx hy)]))) mixed Tryz.func113 (by kernel_rfl) w
 ·let pre:=[dShr (g8 b 31) .u64 7 (by decide),dEq8 (g8 b 31 >>> 7) 1 ho,dAnd (g8 b 31) 127]
  cases h0:Ow (H7 b)
  ·obtain⟨e1,e2⟩:=C9e h0;rw[e1,e2];exact sx_fun (g:=gB) 60 ρ (pre++[dEB (b:=false) (h0▸aB) hy]) mixed Tryz.func113 (by kernel_rfl) w
  ·cases h1:Fy (B1b b) (B0o b)
   ·obtain⟨e1,e2⟩:=C5u h1;rw[e1,e2];exact sx_fun (g:=gB) 60 ρ (pre++(dEB (b:=true) (h0▸aB) hy::(mid++[dEB (b:=false) (h1▸aA) hx]))) mixed Tryz.func113 (by kernel_rfl) w
   ·cases h2:U0 x==z8 32
    ·obtain⟨e1,e2⟩:=C9u h0 h1 ho h2;rw[e1,e2];exact sx_fun (g:=gB) 60 ρ (pre++(dEB (b:=true) (h0▸aB) hy::(mid++[dEB (b:=true) (h1▸aA) hx,dH31 (Gh x hx) (Cn _),dEq31 (U0 x) (z8 32) (Cn _) rfl h2,dE (Nd 0) rfl,dE (Hc (E4 0) x rfl hx) rfl,dP (affine_v (E8 (E4 0) x) y rfl hy) (Az rfl hy)]))) mixed Tryz.func113 (by kernel_rfl) w
    ·obtain⟨e1,e2⟩:=C8p ho h2;rw[e1,e2];exact sx_fun (g:=gB) 60 ρ (pre++(dEB (b:=true) (h0▸aB) hy::(mid++[dEB (b:=true) (h1▸aA) hx,dH31 (Gh x hx) (Cn _),dEq31 (U0 x) (z8 32) (Cn _) rfl h2]))) mixed Tryz.func113 (by kernel_rfl) w
end
section
def Pl (ps:List Pn):List UInt64:=(ps.map Pn.row).flatten
def Lw (ps:List Pn):Prop:=∀p∈ps,p.Ok
theorem Z9:∀ {ps:List Pn},Lw ps→(Pl ps).length=ps.length*20
 | [],_=>rfl
 | p::ps,h=>by
  have h1:=Z9 (ps:=ps) fun q hq=>h q (by simp[hq]);have h2:=(h p (by simp)).row;show (p.row++Pl ps).length=_;rw[List.length_append,h1,h2,List.length_cons];omega
theorem C6k:∀ {ps:List Pn} (i:Nat),Lw ps→i<ps.length→((Pl ps).drop (i*20)).take 20=(ps.getD i Ea).row
 | p::ps,0,h,_=>by
  have h2:=(h p (by simp)).row;show (p.row++Pl ps).take 20=p.row;rw[List.take_append_of_le_length (by omega),List.take_of_length_le (by omega)]
 | p::ps,i+1,h,hi=>by
  have h2:=(h p (by simp)).row;have h1:=C6k (ps:=ps) i (fun q hq=>h q (by simp[hq])) (by simpa using hi);show ((p.row++Pl ps).drop ((i+1)*20)).take 20=_;rw[show (i+1)*20=p.row.length+i*20 by omega,List.drop_append,List.drop_eq_nil_of_le (by omega),List.nil_append,Nat.add_sub_cancel_left,h1];rfl
theorem C4g:∀ {ps:List Pn} (i:Nat) {q:Pn},Lw ps→q.Ok→i<ps.length→(Pl ps).take (i*20)++q.row++(Pl ps).drop (i*20+20)=Pl (ps.set i q)
 | p::ps,0,q,h,hq,_=>by
  have h2:=(h p (by simp)).row;show (p.row++Pl ps).take 0++q.row++(p.row++Pl ps).drop (0+20)=q.row++Pl ps;rw[show 0+20=p.row.length+0 by omega,List.drop_append];simp
 | p::ps,i+1,q,h,hq,hi=>by
  have h2:=(h p (by simp)).row;have h1:=C4g (ps:=ps) i (fun q hq=>h q (by simp[hq])) hq (by simpa using hi);show (p.row++Pl ps).take ((i+1)*20)++q.row++(p.row++Pl ps).drop ((i+1)*20+20)=p.row++Pl (ps.set i q);rw[←h1,show (i+1)*20+20=p.row.length+(i*20+20) by omega,List.drop_append,List.drop_eq_nil_of_le (by omega),List.nil_append,Nat.add_sub_cancel_left,show (i+1)*20=p.row.length+i*20 by omega,List.take_append,List.take_of_length_le (by omega),Nat.add_sub_cancel_left];simp
theorem Lw.getD {ps:List Pn} (h:Lw ps) (i:Nat):(ps.getD i Ea).Ok:=by
 by_cases hi:i<ps.length
 ·rw[List.getD_eq_getElem?_getD,List.getElem?_eq_getElem hi];exact h _ (List.getElem_mem hi)
 ·rw[List.getD_eq_getElem?_getD,List.getElem?_eq_none (by omega)];exact Gm
def U5 (ps:List Pn) (i:Nat):Pn:=ps.getD i Ea
theorem Lw.at {ps:List Pn} (h:Lw ps) (i:Nat):(U5 ps i).Ok:=h.getD i
section
variable {w : World} {g : Nat} {t : TypeId} {ps : List Pn}
theorem Bk.plAt (K:Bk w g t (C9 (Pl ps))) (h:Lw ps) {i:Nat} (hi:i<ps.length):J0 w ⟨g,i*20,none⟩ 20=some (C9 (U5 ps i).row):=by
 show _=some (C9 (ps.getD i Ea).row);have hl:=Z9 h;rw[K.rowMid (i*20) 20 (by simp[hl];omega),←C6k i h hi];simp[C9]
theorem Bk.plCan (K:Bk w g t (C9 (Pl ps))) (h:Lw ps) {i:Nat} (hi:i<ps.length):U7 w ⟨g,i*20,none⟩ 20=true:=by
 have hl:=Z9 h;exact K.can (by simp[hl];omega)
theorem Bk.plPut (K:Bk w g t (C9 (Pl ps))) (h:Lw ps) {i:Nat} (hi:i<ps.length) {q:Pn} (hq:q.Ok):Bk (E0 w ⟨g,i*20,none⟩ (C9 q.row)) g t (C9 (Pl (ps.set i q))):=by
 have hl:=Z9 h;have h1:=K.put (o:=i*20) (vs:=C9 q.row) (by simp[hl,hq.row];omega);rw[←C4g i h hq hi];simpa [C9,hq.row] using h1
end
def Cd (f:Nat→Pn) (n m:Nat):List Pn:=(List.range n).map fun i=>if i<m then f i else Ea
@[simp] theorem A0k (f : Nat → Pn) (n m : Nat) : (Cd f n m).length = n := by simp [Cd]
theorem Dh {f:Nat→Pn} (hf:∀i,(f i).Ok) (n m:Nat):Lw (Cd f n m):=fun p hp=>by
 obtain⟨i,_,rfl⟩:=List.mem_map.1 hp;split
 ·exact hf i
 ·exact Gm
theorem C8m {f:Nat→Pn} {n m i:Nat} (hi:i<n):(Cd f n m).getD i Ea=if i<m then f i else Ea:=by
 rw[List.getD_eq_getElem?_getD];simp[Cd,hi]
theorem A1f {f:Nat→Pn} {n m i:Nat} (hi:i<n):U5 (Cd f n m) i=if i<m then f i else Ea:=C8m hi
theorem Yk {f:Nat→Pn} {n m:Nat} (hm:m<n) {q:Pn} (hq:q=f m):(Cd f n m).set m q=Cd f n (m+1):=by
 subst hq;apply List.ext_getElem
 ·simp
 ·intro i h1 h2;simp only[Cd,List.getElem_set,List.getElem_map,List.getElem_range];by_cases e:m=i
  ·subst e;simp
  ·rw[if_neg e];by_cases h:i<m
   ·rw[if_pos h,if_pos (by omega)]
   ·rw[if_neg h,if_neg (by omega)]
theorem D8o (f:Nat→Pn):Pl (Cd f 32 0)=K9 640:=by kernel_rfl
def Yl (n:List UInt8) (i:Nat):UInt8:=g8 n (i / 2) >>> UInt8.ofNat (4*(i % 2)) &&& 15
theorem B4d (n:List UInt8) (i:Nat):(Yl n i).toNat<16:=by
 unfold Yl;rw[UInt8.toNat_and];exact Nat.lt_of_le_of_lt Nat.and_le_right (by decide)
theorem C0y (n:List UInt8) (hn:n.length=32) (i:Nat) (hi:i<64) (w:World):Calls Tryz.prog 99 #[A8 n,.int .i64 (i:Int)] w fun e w'=>e=.returned (.int .u8 (n8 (Yl n i)))∧Below w.heap.size w w':=by
 have aB:(i:Int) / 2=((i / 2:Nat):Int):=by omega
 have aC:(i:Int) % 2=((i % 2:Nat):Int):=by omega
 have aD:i / 2<32:=by omega
 have h2:i % 2<2:=by omega
 have k0:=(Bk.new w 23 (c8 n)).at_ (Fl (l:=n) (i:=i / 2) (by omega));obtain⟨D,hD⟩:=H8 (Yl n i);have aA:D=g8 n (i / 2) >>> UInt8.ofNat (4*(i % 2)) &&& 15:=hD;have HD:=Lib.hid hD;rw[←hD];have HE:=Lib.hid aA;clear hD aA;have hB:Below w.heap.size w (w.alloc (Obj.cells (c8 n).toArray 23)):=Cj _ _;generalize i / 2=q at *;generalize i % 2=r at *;obtain⟨s,hs⟩:=H8 (4*r);have h4:4*(r:Int)=(s:Int):=by omega
 have aE:s<8:=by omega
 have HS:=Lib.hid hs;clear hs;go_enter Tryz.func99,Tryz.ntmps99;go_wp2_with fail;go_ret;exact ⟨by rw[HE.out,HS.out];rfl,hB⟩
end
section
def dg (n:List UInt8) (i:Nat):Nat:=(Yl n i).toNat
theorem B2i (n:List UInt8) (i:Nat):dg n i<16:=B4d n i
theorem Wb (n:List UInt8) (hn:n.length=32) (i:Nat) (hi:i<64) (w:World):Calls Tryz.prog 99 #[A8 n,.int .i64 (i:Int)] w fun e w'=>e=.returned (.int .u8 ((dg n i:Nat):Int))∧Below w.heap.size w w':=C0y n hn i hi w
def El (p:Pn) (k:List UInt64):Nat→Pn
 | 0=>E3 Ea
 | 1=>E3 p
 | i+2=>Ai (El p k (i+1)) (E3 p) k
theorem Gv {p:Pn} (hp:p.Ok) (k:List UInt64):∀i,(El p k i).Ok
 | 0=>N8 Gm
 | 1=>N8 hp
 | i+2=>Dw _ _ _
def Q7 (p:Pn) (k:List UInt64):List Pn:=Cd (El p k) 16 16
theorem Ch {p:Pn} (hp:p.Ok) (k:List UInt64):Lw (Q7 p k):=Dh (Gv hp k) 16 16
@[simp, go_sem] theorem D0e (p : Pn) (k : List UInt64) : (Q7 p k).length = 16 := A0k _ _ _
theorem Zy {p:Pn} {k:List UInt64} {i:Nat} (hi:i<16):U5 (Q7 p k) i=El p k i:=by
 unfold Q7;rw[A1f hi,if_pos hi]
def plC:List Pn→List Value
 | []=>[]
 | [q]=>C9 q.x++(C9 q.y++(C9 q.z++C9 q.t))
 | q::l=>C9 q.x++(C9 q.y++(C9 q.z++(C9 q.t++plC l)))
theorem plC_eq:∀l:List Pn,C9 (Pl l)=plC l
 | []=>rfl
 | [q]=>by simp[plC,Pl,Pn.row,Rq,C9]
 | q::r::l=>by
  have ih:=plC_eq (r::l);have h:C9 (Pl (q::r::l))=C9 q.row++C9 (Pl (r::l)):=by simp[Pl,C9]
  rw[h,ih];simp[plC,Pn.row,Rq,C9]
set_option maxRecDepth 100000
theorem A4k (p:Pn) (k:List UInt64) (hp:p.Ok) (hk:k.length=5) (w:World):Calls Tryz.prog 96 #[J3 p.row,J3 k] w fun e w'=>e=.returned (J3 (Pl (Q7 p k)))∧Below w.heap.size w w':=by
 rw[Pn.seg,show J3 (Pl (Q7 p k))=.agg (plC (Q7 p k)).toArray by rw[J3,plC_eq]];exact sx_fun (g:=gPt) 100 (p.av hp++[av64 k 5 hk]) ([dP (right_v Ea Gm) (N8 Gm),dP (right_v p hp) (N8 hp)]++(List.range 14).map fun i=>dP (pplus_v (El p k (i+1)) (E3 p) k (Gv hp k _) (N8 hp) hk) (Gv hp k (i+2))) mixed Tryz.func96 (by kernel_rfl) w
end
end Go.Proofs.YtlegpkdighoflaaGreat
