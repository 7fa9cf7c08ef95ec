/- A part of the proof of AuditTells. -/
import Derived.Laws.Externs
import Derived.Test.YtmllnpokbbabhaaGreatTaj
set_option linter.unusedVariables false
set_option linter.unusedSimpArgs false
set_option maxRecDepth 100000
set_option maxHeartbeats 40000000
namespace Go.Proofs.YtmllnpokbbabhaaGreat
open Go Go.RowKit Sh
abbrev RL' (t n : TypeId) : Prop := ∀ (w : World) (ρ : Operand → Value) (dst : Option Tmp) (ty : TypeId) (pos : String) (after : Array Edge) (guard : Option (Nat × Bool)) (x : Operand),
    (execOp ρ { dst, op := .load t x, type := ty, pos, after, guard }).run Tryz.prog w = Ov n w (O9 Tryz.prog ρ { dst, op := .load t x, type := ty, pos, after, guard } w) (ρ x)
theorem LL' {t n : TypeId} {d : TypeDesc} (hu : Tryz.prog.underlying t = some d) (hi : (Tryz.prog.info? t).map (·.size) = some n) (hn : 0 < n := by decide) (hd : d.isRow = true := by rfl) : RL' t n :=
  fun w ρ dst ty pos after guard x => Lh w ρ dst ty pos after guard t n d x hn hu hd hi
abbrev RS' (t n : TypeId) : Prop := ∀ (w : World) (ρ : Operand → Value) (dst : Option Tmp) (ty : TypeId) (pos : String) (after : Array Edge) (guard : Option (Nat × Bool)) (x y : Operand),
    (execOp ρ { dst, op := .store t x y, type := ty, pos, after, guard }).run Tryz.prog w = X5 n w (O9 Tryz.prog ρ { dst, op := .store t x y, type := ty, pos, after, guard } w) (ρ x) (ρ y)
theorem SS' {t n : TypeId} (hi : (Tryz.prog.info? t).map (·.size) = some n) (hn : 0 < n := by decide) : RS' t n :=
  fun w ρ dst ty pos after guard x y => Fk w ρ dst ty pos after guard t n x y hn hi
abbrev RA' (t : TypeId) (c : Array Value) : Prop := ∀ (w : World) (ρ : Operand → Value) (dst : Option Tmp) (ty : TypeId) (pos : String) (after : Array Edge) (guard : Option (Nat × Bool)),
    (execOp ρ { dst, op := .alloc t, type := ty, pos, after, guard }).run Tryz.prog w = .ok (.value (.pointer (some ⟨w.heap.size, 0, none⟩))) (w.alloc (.cells c t))
abbrev RB' (t : TypeId) : Prop := ∀ (w : World) (ρ : Operand → Value) (dst : Option Tmp) (ty : TypeId) (pos : String) (after : Array Edge) (guard : Option (Nat × Bool)) (x : Operand),
    (execOp ρ { dst, op := .box t x, type := ty, pos, after, guard }).run Tryz.prog w = Sq t w (O9 Tryz.prog ρ { dst, op := .box t x, type := ty, pos, after, guard } w) (ρ x)
theorem BX' (t : TypeId) : RB' t := fun w ρ dst ty pos after guard x => A1z w ρ dst ty pos after guard t x
section
theorem D6z (x y:UInt64):Op.intArith .sub .u64 (E6 x) (E6 y)=pure (.int .u64 (E6 (x-y))):=by
 unfold Op.intArith E6;have hx:=Ll x;have hy:=Ll y;have e:IntKind.u64.wrap ((x.toNat:Int)-(y.toNat:Int))=(((18446744073709551616-y.toNat+x.toNat) % 18446744073709551616:Nat):Int):=by
  simp only[IntKind.wrap,IntKind.bits,IntKind.signed,Bool.false_and,Bool.false_eq_true,if_false];omega
 rw[e,UInt64.toNat_sub]
attribute [go_sem ↓ high] D6z
noncomputable def B7w (v:Value):Option (List UInt64):=open Classical in if h:∃l,v=H7 l then some h.choose else none
theorem B7n {x y:UInt64} (h:Wr x=Wr y):x=y:=by
 unfold Wr at h;injection h with _ h;exact B0n h
theorem D6g {xs ys:List UInt64} (h:H7 xs=H7 ys):xs=ys:=by
 unfold H7 E4 at h;injection h with h;have h':(xs.map Wr)=(ys.map Wr):=by simpa using congrArg Array.toList h
 exact (List.map_inj_right fun _ _=>B7n).1 h'
theorem A2t (l:List UInt64):B7w (H7 l)=some l:=by
 have h:∃m,H7 l=H7 m:=⟨l,rfl⟩;unfold B7w;rw[dif_pos h];exact congrArg some (D6g h.choose_spec).symm
theorem A8x {v:Value} {l:List UInt64} (h:B7w v=some l):v=H7 l:=by
 unfold B7w at h;split at h
 ·rename_i hh
  injection h with h;rw[←h];exact hh.choose_spec
 ·cases h
@[go_sem] theorem E1u (t : TypeId) (w : World) (raw : Result Next) (l : List UInt64) : Sq t w raw (H7 l) = .ok (.value (.pointer (some ⟨w.heap.size, 0, none⟩))) (w.alloc (.cells (E4 l).toArray t)) := rfl
noncomputable def A7z (n:Nat) (w:World) (raw:Result Next) (v:Value):Result Next:=match B7w v with
 | some l=>if l.length=n then .ok (.value (H7 l)) w else raw
 | none=>raw
@[go_sem] theorem E1s (n : Nat) (w : World) (raw : Result Next) (l : List UInt64) (h : l.length = n) : A7z n w raw (H7 l) = .ok (.value (H7 l)) w := by
 unfold A7z;rw[A2t];simp[h]
noncomputable def Bh (v:Value):Option UInt64:=open Classical in if h:∃x,v=Wr x then some h.choose else none
theorem Ps (x:UInt64):Bh (.int .u64 (E6 x))=some x:=by
 have h:∃y,Wr x=Wr y:=⟨x,rfl⟩;show Bh (Wr x)=_;unfold Bh;rw[dif_pos h];exact congrArg some (B7n h.choose_spec).symm
theorem Ho {v:Value} {x:UInt64} (h:Bh v=some x):v=.int .u64 (E6 x):=by
 unfold Bh at h;split at h
 ·rename_i hh
  injection h with h;rw[←h];exact hh.choose_spec
 ·cases h
@[go_sem ↓ high] theorem E5d (x : UInt64) (k : IntKind) : Op.shift .shl .u64 (E6 x) k 13 = pure (.int .u64 (E6 (x <<< 13))) := A8m x k 13 (by decide)
@[go_sem ↓ high] theorem E6l (x : UInt64) (k : IntKind) : Op.shift .shr .u64 (E6 x) k 51 = pure (.int .u64 (E6 (x >>> 51))) := Fr x k 51 (by decide)
@[go_sem ↓ high] theorem E7v (x : UInt64) (k : IntKind) : Op.shift .shr .u64 (E6 x) k 63 = pure (.int .u64 (E6 (x >>> 63))) := Fr x k 63 (by decide)
@[go_sem ↓ high] theorem E8z (x : UInt64) : Op.intBits .and .u64 (E6 x) 1 = pure (.int .u64 (E6 (x &&& 1))) := C7l x 1
@[go_sem ↓ high] theorem C3k (x : UInt64) : Op.intBits .and .u64 (E6 x) 4294967295 = pure (.int .u64 (E6 (x &&& 4294967295))) := C7l x 4294967295
@[go_sem ↓ high] theorem E8w (x : UInt8) : Op.intBits .and .u8 (n8 x) 15 = pure (.int .u8 (n8 (x &&& 15))) := E3b x 15
theorem Vq:(Tryz.prog.info? 245).map (·.size)=some 4:=by kernel_rfl
theorem D3o:((Tryz.prog.info? 245).bind (·.zero))=some (H7 (T9 4)):=by kernel_rfl
section
variable (w : World) (ρ : Operand → Value) (dst : Option Tmp) (ty : TypeId) (pos : String) (after : Array Edge) (guard : Option (Nat × Bool))
@[go_sem ↓ high] theorem E9f:RL' 245 4:=LL' Tryz.underlying245 Vq
@[go_sem ↓ high] theorem E6n:RS' 245 4:=SS' Vq
@[go_sem ↓ high] theorem E5v:RA' 245 (E4 (T9 4)).toArray:=fun w ρ dst ty pos after guard=>N8 w ρ dst ty pos after guard 245 (H7 (T9 4)) D3o
@[go_sem ↓ high] theorem E9z:RB' 245:=BX' _
end
theorem A9o:(Tryz.prog.info? 180).map (·.size)=some 5:=by kernel_rfl
theorem D5f:((Tryz.prog.info? 180).bind (·.zero))=some (H7 (T9 5)):=by kernel_rfl
theorem Xa:Tryz.prog.underlying 180=some (.struct (Q5 Tryz.prog 180)):=by kernel_rfl
section
variable (w : World) (ρ : Operand → Value) (dst : Option Tmp) (ty : TypeId) (pos : String) (after : Array Edge) (guard : Option (Nat × Bool))
@[go_sem ↓ high] theorem E8r:RL' 180 5:=LL' Xa A9o
@[go_sem ↓ high] theorem E5q:RS' 180 5:=SS' A9o
@[go_sem ↓ high] theorem E5p:RA' 180 (E4 (T9 5)).toArray:=fun w ρ dst ty pos after guard=>N8 w ρ dst ty pos after guard 180 (H7 (T9 5)) D5f
@[go_sem ↓ high] theorem F0g:RB' 180:=BX' _
end
theorem B0r:(Tryz.prog.info? 281).map (·.size)=some 2:=by kernel_rfl
theorem D5b:((Tryz.prog.info? 281).bind (·.zero))=some (H7 (T9 2)):=by kernel_rfl
theorem A7r:Tryz.prog.underlying 281=some (.struct (Q5 Tryz.prog 281)):=by kernel_rfl
section
variable (w : World) (ρ : Operand → Value) (dst : Option Tmp) (ty : TypeId) (pos : String) (after : Array Edge) (guard : Option (Nat × Bool))
@[go_sem ↓ high] theorem E2r:RS' 281 2:=SS' B0r
@[go_sem ↓ high] theorem E6t:RA' 281 (E4 (T9 2)).toArray:=fun w ρ dst ty pos after guard=>N8 w ρ dst ty pos after guard 281 (H7 (T9 2)) D5b
@[go_sem ↓ high] theorem F0n:RB' 281:=BX' _
end
theorem Jm:(Tryz.prog.info? 247).map (·.size)=some 4:=by kernel_rfl
theorem C1p:((Tryz.prog.info? 247).bind (·.zero))=some (H7 (T9 4)):=by kernel_rfl
theorem Dv:Tryz.prog.underlying 247=some (.struct (Q5 Tryz.prog 247)):=by kernel_rfl
section
variable (w : World) (ρ : Operand → Value) (dst : Option Tmp) (ty : TypeId) (pos : String) (after : Array Edge) (guard : Option (Nat × Bool))
@[go_sem ↓ high] theorem E3u:RS' 247 4:=SS' Jm
@[go_sem ↓ high] theorem E2v:RA' 247 (E4 (T9 4)).toArray:=fun w ρ dst ty pos after guard=>N8 w ρ dst ty pos after guard 247 (H7 (T9 4)) C1p
@[go_sem ↓ high] theorem F0d:RB' 247:=BX' _
end
theorem C0u:(Tryz.prog.info? 182).map (·.size)=some 20:=by kernel_rfl
theorem A5u:Tryz.prog.underlying 182=some (.struct (Q5 Tryz.prog 182)):=by kernel_rfl
section
variable (w : World) (ρ : Operand → Value) (dst : Option Tmp) (ty : TypeId) (pos : String) (after : Array Edge) (guard : Option (Nat × Bool))
@[go_sem ↓ high] theorem E6x:RS' 182 20:=SS' C0u
end
theorem A0u:(Tryz.prog.info? 275).map (·.size)=some 640:=by kernel_rfl
theorem C6v:((Tryz.prog.info? 275).bind (·.zero))=some (H7 (T9 640)):=by kernel_rfl
section
variable (w : World) (ρ : Operand → Value) (dst : Option Tmp) (ty : TypeId) (pos : String) (after : Array Edge) (guard : Option (Nat × Bool))
@[go_sem ↓ high] theorem E7f:RL' 275 640:=LL' Tryz.underlying275 A0u
@[go_sem ↓ high] theorem E1r:RS' 275 640:=SS' A0u
@[go_sem ↓ high] theorem E1k:RA' 275 (E4 (T9 640)).toArray:=fun w ρ dst ty pos after guard=>N8 w ρ dst ty pos after guard 275 (H7 (T9 640)) C6v
end
theorem B3m (w:World):(Instr.build 247 #[]).run Tryz.prog w=.ok (H7 (T9 4)) w:=by kernel_rfl
@[go_sem ↓ high] theorem E1p (w : World) (ρ : Operand → Value) (dst : Option Tmp) (ty : TypeId) (pos : String) (after : Array Edge) (guard : Option (Nat × Bool)) :
 (execOp ρ { dst,op:=.build 247 #[],type:=ty,pos,after,guard }).run Tryz.prog w=.ok (.value (H7 (T9 4))) w:=
 U1 w ρ dst ty pos after guard _ _ _ (by simp only[List.map_toArray,List.map_nil];exact B3m w)
theorem C3c (w:World):(Eu (Q5 Tryz.prog 247)).run Tryz.prog w=.ok #[(0,4)] w:=by kernel_rfl
theorem B4h (l:List UInt64) (h:l.length=4) (w:World):(Instr.build 247 #[(0,H7 l)]).run Tryz.prog w=.ok (H7 l) w:=by
 have hz:(H7 (T9 4)).cells.toList=E4 (T9 4):=rfl;have h1:=Q8 Dv C1p w (C3c w) #[(0,H7 l)] [(0,E4 l)] (by
  rw[hz];exact ⟨by simp[h],rfl,by simp[h],trivial⟩)
 refine h1.trans (congrArg (fun (cs:List Value)=>Result.ok (Value.agg cs.toArray) w) ?_);rw[hz];simp[Gl,Y7,h,List.drop_eq_nil_of_le,E4]
@[go_sem ↓ high] theorem E7n (w : World) (ρ : Operand → Value) (dst : Option Tmp) (ty : TypeId) (pos : String) (after : Array Edge) (guard : Option (Nat × Bool)) (x : Operand) :
 (execOp ρ { dst,op:=.build 247 #[(0,x)],type:=ty,pos,after,guard }).run Tryz.prog w=A7z 4 w (O9 Tryz.prog ρ { dst,op:=.build 247 #[(0,x)],type:=ty,pos,after,guard } w) (ρ x):=by
 generalize hx:ρ x=a;unfold A7z;split
 ·rename_i l hl
  replace hl:=A8x hl;split
  ·rename_i h
   refine U1 w ρ dst ty pos after guard _ _ _ ?_;simp only[List.map_toArray,List.map_cons,List.map_nil,hx,hl];exact B4h l h w
  ·rfl
 ·rfl
noncomputable def E5f (w:World) (raw:Result Next) (v0 v1 v2 v3 v4:Value):Result Next:=match Bh v0,Bh v1,Bh v2,Bh v3,Bh v4 with
 | some x0,some x1,some x2,some x3,some x4=>.ok (.value (H7 [x0,x1,x2,x3,x4])) w
 | _,_,_,_,_=>raw
theorem A8t (x0 x1 x2 x3:UInt64) (w:World):(Instr.build 245 #[(0,.int .u64 (E6 x0)),(1,.int .u64 (E6 x1)),(2,.int .u64 (E6 x2)),(3,.int .u64 (E6 x3))]).run Tryz.prog w=.ok (H7 [x0,x1,x2,x3]) w:=by kernel_rfl
noncomputable def We (w:World) (raw:Result Next) (v0 v1 v2 v3:Value):Result Next:=match Bh v0,Bh v1,Bh v2,Bh v3 with
 | some x0,some x1,some x2,some x3=>.ok (.value (H7 [x0,x1,x2,x3])) w
 | _,_,_,_=>raw
@[go_sem ↓ high] theorem E1h (w : World) (ρ : Operand → Value) (dst : Option Tmp) (ty : TypeId) (pos : String) (after : Array Edge) (guard : Option (Nat × Bool)) (x0 x1 x2 x3 : Operand) :
 (execOp ρ { dst,op:=.build 245 #[(0,x0),(1,x1),(2,x2),(3,x3)],type:=ty,pos,after,guard }).run Tryz.prog w=We w (O9 Tryz.prog ρ { dst,op:=.build 245 #[(0,x0),(1,x1),(2,x2),(3,x3)],type:=ty,pos,after,guard } w) (ρ x0) (ρ x1) (ρ x2) (ρ x3):=by
 generalize h0:ρ x0=v0;generalize h1:ρ x1=v1;generalize h2:ρ x2=v2;generalize h3:ρ x3=v3;unfold We;split
 ·rename_i y0 y1 y2 y3 g0 g1 g2 g3
  refine U1 w ρ dst ty pos after guard _ _ _ ?_;simp only[List.map_toArray,List.map_cons,List.map_nil,h0,Ho g0,h1,Ho g1,h2,Ho g2,h3,Ho g3];exact A8t y0 y1 y2 y3 w
 ·rfl
theorem B0k (x0 x1:UInt64) (w:World):(Instr.build 281 #[(0,.int .u64 (E6 x0)),(1,.int .u64 (E6 x1))]).run Tryz.prog w=.ok (H7 [x0,x1]) w:=by kernel_rfl
noncomputable def Wc (w:World) (raw:Result Next) (v0 v1:Value):Result Next:=match Bh v0,Bh v1 with
 | some x0,some x1=>.ok (.value (H7 [x0,x1])) w
 | _,_=>raw
@[go_sem] theorem D6w (w : World) (raw : Result Next) (x0 x1 : UInt64) : Wc w raw (.int .u64 (E6 x0)) (.int .u64 (E6 x1)) = .ok (.value (H7 [x0, x1])) w := by
 unfold Wc;simp only[Ps]
@[go_sem ↓ high] theorem E2f (w : World) (ρ : Operand → Value) (dst : Option Tmp) (ty : TypeId) (pos : String) (after : Array Edge) (guard : Option (Nat × Bool)) (x0 x1 : Operand) :
 (execOp ρ { dst,op:=.build 281 #[(0,x0),(1,x1)],type:=ty,pos,after,guard }).run Tryz.prog w=Wc w (O9 Tryz.prog ρ { dst,op:=.build 281 #[(0,x0),(1,x1)],type:=ty,pos,after,guard } w) (ρ x0) (ρ x1):=by
 generalize h0:ρ x0=v0;generalize h1:ρ x1=v1;unfold Wc;split
 ·rename_i y0 y1 g0 g1
  refine U1 w ρ dst ty pos after guard _ _ _ ?_;simp only[List.map_toArray,List.map_cons,List.map_nil,h0,Ho g0,h1,Ho g1];exact B0k y0 y1 w
 ·rfl
def ptl (x y z t:List UInt64):List UInt64:=x++(y++(z++t))
theorem B8o {x y z t:List UInt64} (hx:x.length=5) (hy:y.length=5) (hz:z.length=5) (ht:t.length=5):(ptl x y z t).length=20:=by simp[ptl,hx,hy,hz,ht]
theorem Bk.row64 {w:World} {g:Nat} {t:TypeId} {l:List UInt64} {n:Nat} (h:Bk w g t (E4 l)) (hl:l.length=n):C4 w ⟨g,0,none⟩ n=some (E4 l):=by have:=h.rows;rwa [Md,hl]at this
def Yd (x y c:UInt64):UInt64:=x+y+c
def A2j (x y c:UInt64):UInt64:=UInt64.ofNat ((x.toNat+y.toNat+c.toNat) / 18446744073709551616)
def C4p (x y b:UInt64):UInt64:=x-y-b
def C3v (x y b:UInt64):UInt64:=if x.toNat<y.toNat+b.toNat then 1 else 0
theorem B2e (x y c:UInt64) (hc:c.toNat≤1) (w:World):(callFunc 195 #[.int .u64 (E6 x),.int .u64 (E6 y),.int .u64 (E6 c)]).run Tryz.prog w=.ok (.value (.tuple #[.int .u64 (E6 (Yd x y c)),.int .u64 (E6 (A2j x y c))])) w:=by
 have hx:=Ll x;have hy:=Ll y;rw[run_callFunc_extern (fn:=Tryz.f195) Tryz.func195 (by kernel_rfl) (by kernel_rfl) (by kernel_rfl) (e:=add64Entry) (by kernel_rfl)];unfold E6;rw[run_add64 _ _ _ (by omega) (by omega) (by omega) (by omega)];have e1:(Yd x y c).toNat=(x.toNat+y.toNat+c.toNat) % 18446744073709551616:=by unfold Yd;rw[UInt64.toNat_add,UInt64.toNat_add];omega
 have e2:(A2j x y c).toNat=(x.toNat+y.toNat+c.toNat) / 18446744073709551616:=by unfold A2j;rw[UInt64.toNat_ofNat'];omega
 simp only[Result.andThen_ok];rw[e1,e2];congr 6<;>omega
theorem B8p (x y b:Nat) (hb:b≤1) (e:Array Value→Sem Value) (he:e=fun args=>do
 let (x, y, b) ← Extern.MathBitsCarry.three "Sub64" args
 pure (Extern.MathBitsCarry.pair ((x+Extern.MathBitsCarry.m64-y-b) % Extern.MathBitsCarry.m64) (if x<y+b then 1 else 0))) (w:World) :
 (e #[.int .u64 x,.int .u64 y,.int .u64 b]).run Tryz.prog w =
  .ok (.tuple #[.int .u64 (((x+18446744073709551616-y-b) % 18446744073709551616:Nat):Int),.int .u64 ((if x<y+b then 1 else 0:Nat):Int)]) w:=by
 subst he;have:b=0∨b=1:=by omega
 rcases this with rfl | rfl<;>rfl
theorem C9s (x y c:UInt64) (hc:c.toNat≤1) (w:World):(callFunc 210 #[.int .u64 (E6 x),.int .u64 (E6 y),.int .u64 (E6 c)]).run Tryz.prog w=.ok (.value (.tuple #[.int .u64 (E6 (C4p x y c)),.int .u64 (E6 (C3v x y c))])) w:=by
 have hx:=Ll x;have hy:=Ll y;rw[run_callFunc_extern (fn:=Tryz.f210) Tryz.func210 (by kernel_rfl) (by kernel_rfl) (by kernel_rfl) (e:=fun args=>do
  let (x, y, b) ← Extern.MathBitsCarry.three "Sub64" args
  pure (Extern.MathBitsCarry.pair ((x+Extern.MathBitsCarry.m64-y-b) % Extern.MathBitsCarry.m64) (if x<y+b then 1 else 0))) (by kernel_rfl)]
 unfold E6;rw[B8p _ _ _ hc _ rfl];have e1:(C4p x y c).toNat=(x.toNat+18446744073709551616-y.toNat-c.toNat) % 18446744073709551616:=by
  unfold C4p;rw[UInt64.toNat_sub,UInt64.toNat_sub];omega
 have e2:(C3v x y c).toNat=(if x.toNat<y.toNat+c.toNat then 1 else 0):=by unfold C3v;split<;>rfl
 simp only[Result.andThen_ok];rw[e1,e2]
attribute [go_sem] B2e C9s
@[go_sem] theorem E1o (x y : UInt64) (w : World) : (callFunc 195 #[.int .u64 (E6 x), .int .u64 (E6 y), .int .u64 0]).run Tryz.prog w = .ok (.value (.tuple #[.int .u64 (E6 (Yd x y 0)), .int .u64 (E6 (A2j x y 0))])) w := B2e x y 0 (by decide) w
@[go_sem] theorem D3m (x y c : UInt64) (hc : c.toNat ≤ 1) : (A2j x y c).toNat ≤ 1 := by
 have hx:=Ll x;have hy:=Ll y;unfold A2j;rw[UInt64.toNat_ofNat'];omega
@[go_sem] theorem D5e (x y c : UInt64) : (C3v x y c).toNat ≤ 1 := by
 unfold C3v;split<;>decide
def B2r (x y:UInt64):UInt64:=UInt64.ofNat (x.toNat*y.toNat / 18446744073709551616)
end
def D1w (x y:UInt64):UInt64:=
 let x0:=x &&& 4294967295
 let x1:=x >>> 32
 let y0:=y &&& 4294967295
 let y1:=y >>> 32
 let w0:=x0*y0
 let t:=x1*y0+w0 >>> 32
 let w1:=(t &&& 4294967295)+x0*y1
 x1*y1+t >>> 32+w1 >>> 32
theorem D2o (a b c d:Nat) (ha:a<4294967296) (hb:b<4294967296) (hc:c<4294967296) (hd:d<4294967296) :
 b*d+(b*c+a*c / 4294967296) / 4294967296+((b*c+a*c / 4294967296) % 4294967296+a*d) / 4294967296=(a+4294967296*b)*(c+4294967296*d) / 18446744073709551616:=by
 have e:(a+4294967296*b)*(c+4294967296*d)=a*c+4294967296*(b*c)+4294967296*(a*d)+18446744073709551616*(b*d):=by
  simp only[Nat.add_mul,Nat.mul_add];have e1:a*(4294967296*d)=4294967296*(a*d):=by rw[Nat.mul_left_comm]
  have e2:4294967296*b*c=4294967296*(b*c):=Nat.mul_assoc _ _ _;have e3:4294967296*b*(4294967296*d)=18446744073709551616*(b*d):=by rw[Nat.mul_assoc,Nat.mul_left_comm b];rw[←Nat.mul_assoc]
  rw[e1,e2,e3];omega
 rw[e];generalize a*c=p;generalize b*c=q;generalize a*d=r;generalize b*d=s;omega
theorem C5g (x y:UInt64):D1w x y=B2r x y:=by
 apply UInt64.toNat_inj.1;have hx:=Ll x;have hy:=Ll y;have aC:x.toNat % 4294967296<4294967296:=Nat.mod_lt _ (by decide);have aD:x.toNat / 4294967296<4294967296:=by omega
 have aE:y.toNat % 4294967296<4294967296:=Nat.mod_lt _ (by decide);have aF:y.toNat / 4294967296<4294967296:=by omega
 have aA:=D2o _ _ _ _ aC aD aE aF;have ex:x.toNat % 4294967296+4294967296*(x.toNat / 4294967296)=x.toNat:=by omega
 have ey:y.toNat % 4294967296+4294967296*(y.toNat / 4294967296)=y.toNat:=by omega
 rw[ex,ey]at aA;have b1:(x.toNat / 4294967296)*(y.toNat % 4294967296)≤4294967295*4294967295:=Nat.mul_le_mul (by omega) (by omega);have b2:(x.toNat % 4294967296)*(y.toNat % 4294967296)≤4294967295*4294967295:=Nat.mul_le_mul (by omega) (by omega);have b3:(x.toNat % 4294967296)*(y.toNat / 4294967296)≤4294967295*4294967295:=Nat.mul_le_mul (by omega) (by omega);have b4:(x.toNat / 4294967296)*(y.toNat / 4294967296)≤4294967295*4294967295:=Nat.mul_le_mul (by omega) (by omega);have m32:∀z:UInt64,(z &&& 4294967295).toNat=z.toNat % 4294967296:=fun z=>by
  rw[UInt64.toNat_and];exact Nat.and_two_pow_sub_one_eq_mod z.toNat 32
 have aB:∀z:UInt64,(z >>> 32).toNat=z.toNat / 4294967296:=fun z=>by
  rw[UInt64.toNat_shiftRight];exact Nat.shiftRight_eq_div_pow z.toNat 32
 unfold D1w B2r;simp only[UInt64.toNat_add,UInt64.toNat_mul,m32,aB,UInt64.toNat_ofNat'];have hk:x.toNat*y.toNat / 18446744073709551616<18446744073709551616:=by
  have:x.toNat*y.toNat<18446744073709551616*18446744073709551616:=Nat.mul_lt_mul'' hx hy;omega
 rw[←aA]at hk ⊢;generalize (x.toNat / 4294967296)*(y.toNat % 4294967296)=q at *;generalize (x.toNat % 4294967296)*(y.toNat % 4294967296)=p at *;generalize (x.toNat % 4294967296)*(y.toNat / 4294967296)=r at *;generalize (x.toNat / 4294967296)*(y.toNat / 4294967296)=s at *;clear aA ex ey m32 aB;omega
theorem Xo (x y:UInt64) (w:World):Calls Tryz.prog 197 #[.int .u64 (E6 x),.int .u64 (E6 y)] w fun e w'=>e=.returned (.tuple #[.int .u64 (E6 (B2r x y)),.int .u64 (E6 (x*y))])∧w'=w:=by
 rw[←C5g];go_enter Tryz.func197,Tryz.ntmps197;go_wp2;go_ret2
 exact ⟨rfl,rfl⟩
def Ns (x y:UInt64):List UInt64:=[B2r x y,x*y]
@[simp, go_sem] theorem D7i (x y : UInt64) : (Ns x y).length = 2 := rfl
def V9 (p:List UInt64) (x y:UInt64):List UInt64:=[Yd (B2r x y) (E0 p 0) (A2j (x*y) (E0 p 1) 0),Yd (x*y) (E0 p 1) 0]
@[simp, go_sem] theorem D3t (p : List UInt64) (x y : UInt64) : (V9 p x y).length = 2 := rfl
def over (p:List UInt64):UInt64:=E0 p 0 <<< 13 ||| E0 p 1 >>> (51:UInt64)
def Gv (a:List UInt64):List UInt64:=[(E0 a 0 &&& (2251799813685247:UInt64))+19*(E0 a 4 >>> (51:UInt64)),(E0 a 1 &&& (2251799813685247:UInt64))+E0 a 0 >>> (51:UInt64),(E0 a 2 &&& (2251799813685247:UInt64))+E0 a 1 >>> (51:UInt64),(E0 a 3 &&& (2251799813685247:UInt64))+E0 a 2 >>> (51:UInt64),(E0 a 4 &&& (2251799813685247:UInt64))+E0 a 3 >>> (51:UInt64)]
def E0g (t0 t1 t2 t3 t4:List UInt64):List UInt64:=[(E0 t0 1 &&& (2251799813685247:UInt64))+19*over t4,(E0 t1 1 &&& (2251799813685247:UInt64))+over t0,(E0 t2 1 &&& (2251799813685247:UInt64))+over t1,(E0 t3 1 &&& (2251799813685247:UInt64))+over t2,(E0 t4 1 &&& (2251799813685247:UInt64))+over t3]
def Po (t0 t1 t2 t3 t4:List UInt64):List UInt64:=Gv (E0g t0 t1 t2 t3 t4)
theorem B5q (x y:UInt64) (w:World):Calls Tryz.prog 190 #[.int .u64 (E6 x),.int .u64 (E6 y)] w fun e w'=>e=.returned (H7 (Ns x y))∧Below w.heap.size w w':=by
 obtain⟨W0,aA⟩:=D9 (w.alloc (Obj.cells (E4 (T9 2)).toArray 281));have B0:=BA' aA;have R0:=KN' aA;have aB:=Nn 2 R0 (by simp);go_enter Tryz.func190,Tryz.ntmps190;go_wp2_with fail;rw[←aA];clear aA;refine (Xo x y W0).mono ?_;rintro e w1 ⟨rfl,rfl⟩;go_wp2_with fail;refine bodyPost_ret (C7 rfl _ _ _ _ _ _ rfl (R0.puts (vs:=E4 (Ns x y)) (by simp)) A7r rfl (by simp[B0r])) rfl ⟨rfl,C0 B0 (Nat.le_refl _) _⟩
theorem C7n (p:List UInt64) (hp:p.length=2) (x y:UInt64) (w:World):Calls Tryz.prog 191 #[H7 p,.int .u64 (E6 x),.int .u64 (E6 y)] w fun e w'=>e=.returned (H7 (V9 p x y))∧Below w.heap.size w w':=by
 obtain⟨W0,aA⟩:=D9 ((w.alloc (Obj.cells (E4 p).toArray 281)).alloc (Obj.cells (E4 (T9 2)).toArray 281));have B0:Below w.heap.size w W0:=by rw[aA];exact (U7 _ _).alloc (by simp) _
 have P0:Bk W0 w.heap.size 281 (E4 p):=by rw[aA];exact (Bk.new w _ _).alloc _
 have R0:Bk W0 (w.heap.size+1) 281 (E4 (T9 2)):=by rw[aA];simpa using Bk.new (w.alloc (Obj.cells (E4 p).toArray 281)) 281 (E4 (T9 2))
 have aB:=Nn 2 R0 (by simp);have p0:=P0.at_ (Q1 (l:=p) (i:=0) (by omega));have p1:=P0.at_ (Q1 (l:=p) (i:=1) (by omega));go_enter Tryz.func191,Tryz.ntmps191;go_wp2_with fail;rw[←aA];clear aA;refine (Xo x y W0).mono ?_;rintro e w1 ⟨rfl,rfl⟩;go_wp2_with fail;refine bodyPost_ret (C7 rfl _ _ _ _ _ _ rfl (R0.puts (vs:=E4 (V9 p x y)) (by simp)) A7r rfl (by simp[B0r])) rfl ⟨rfl,C0 B0 (by simp) _⟩
theorem D0v (p:List UInt64) (hp:p.length=2) (w:World):Calls Tryz.prog 208 #[H7 p] w fun e w'=>e=.returned (.int .u64 (E6 (over p)))∧Below w.heap.size w w':=by
 obtain⟨W0,aA⟩:=D9 (w.alloc (Obj.cells (E4 p).toArray 281));have B0:=BA' aA;have P0:=KN' aA;have p0:=P0.at_ (Q1 (l:=p) (i:=0) (by omega));have p1:=P0.at_ (Q1 (l:=p) (i:=1) (by omega));rw[aA]at p0 p1;go_enter Tryz.func208,Tryz.ntmps208;go_wp2_with fail;rw[←aA];clear aA;go_ret;exact ⟨rfl,B0⟩
end Go.Proofs.YtmllnpokbbabhaaGreat
