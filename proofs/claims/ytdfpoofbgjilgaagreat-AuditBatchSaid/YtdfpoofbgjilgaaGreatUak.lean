/- A part of the proof of AuditBatch. -/
import Derived.Laws.Externs
import Derived.Test.YtdfpoofbgjilgaaGreatUaj
set_option linter.unusedVariables false
set_option linter.unusedSimpArgs false
set_option maxRecDepth 100000
set_option maxHeartbeats 40000000
namespace Go.Proofs.YtdfpoofbgjilgaaGreat
open Go Go.RowKit Sh
abbrev RL' (t n : TypeId) : Prop := ∀ (w : World) (ρ : Operand → Value) (dst : Option Tmp) (ty : TypeId) (pos : String) (after : Array Edge) (guard : Option (Nat × Bool)) (x : Operand),
    (execOp ρ { dst, op := .load t x, type := ty, pos, after, guard }).run Tryz.prog w = Ni n w (P8 Tryz.prog ρ { dst, op := .load t x, type := ty, pos, after, guard } w) (ρ x)
theorem LL' {t n : TypeId} {d : TypeDesc} (hu : Tryz.prog.underlying t = some d) (hi : (Tryz.prog.info? t).map (·.size) = some n) (hn : 0 < n := by decide) (hd : d.isRow = true := by rfl) : RL' t n :=
  fun w ρ dst ty pos after guard x => Jx w ρ dst ty pos after guard t n d x hn hu hd hi
abbrev RS' (t n : TypeId) : Prop := ∀ (w : World) (ρ : Operand → Value) (dst : Option Tmp) (ty : TypeId) (pos : String) (after : Array Edge) (guard : Option (Nat × Bool)) (x y : Operand),
    (execOp ρ { dst, op := .store t x y, type := ty, pos, after, guard }).run Tryz.prog w = Z2 n w (P8 Tryz.prog ρ { dst, op := .store t x y, type := ty, pos, after, guard } w) (ρ x) (ρ y)
theorem SS' {t n : TypeId} (hi : (Tryz.prog.info? t).map (·.size) = some n) (hn : 0 < n := by decide) : RS' t n :=
  fun w ρ dst ty pos after guard x y => Es w ρ dst ty pos after guard t n x y hn hi
abbrev RA' (t : TypeId) (c : Array Value) : Prop := ∀ (w : World) (ρ : Operand → Value) (dst : Option Tmp) (ty : TypeId) (pos : String) (after : Array Edge) (guard : Option (Nat × Bool)),
    (execOp ρ { dst, op := .alloc t, type := ty, pos, after, guard }).run Tryz.prog w = .ok (.value (.pointer (some ⟨w.heap.size, 0, none⟩))) (w.alloc (.cells c t))
abbrev RB' (t : TypeId) : Prop := ∀ (w : World) (ρ : Operand → Value) (dst : Option Tmp) (ty : TypeId) (pos : String) (after : Array Edge) (guard : Option (Nat × Bool)) (x : Operand),
    (execOp ρ { dst, op := .box t x, type := ty, pos, after, guard }).run Tryz.prog w = Qi t w (P8 Tryz.prog ρ { dst, op := .box t x, type := ty, pos, after, guard } w) (ρ x)
theorem BX' (t : TypeId) : RB' t := fun w ρ dst ty pos after guard x => Zn w ρ dst ty pos after guard t x
section
theorem D4z (x y:UInt64):Op.intArith .sub .u64 (H6 x) (H6 y)=pure (.int .u64 (H6 (x-y))):=by
 unfold Op.intArith H6;have hx:=Jo x;have hy:=Jo y;have e:IntKind.u64.wrap ((x.toNat:Int)-(y.toNat:Int))=(((18446744073709551616-y.toNat+x.toNat) % 18446744073709551616:Nat):Int):=by
  simp only[IntKind.wrap,IntKind.bits,IntKind.signed,Bool.false_and,Bool.false_eq_true,if_false];omega
 rw[e,UInt64.toNat_sub]
attribute [go_sem ↓ high] D4z
noncomputable def B4m (v:Value):Option (List UInt64):=open Classical in if h:∃l,v=J0 l then some h.choose else none
theorem B4y {x y:UInt64} (h:Uu x=Uu y):x=y:=by
 unfold Uu at h;injection h with _ h;exact A6u h
theorem D2u {xs ys:List UInt64} (h:J0 xs=J0 ys):xs=ys:=by
 unfold J0 E6 at h;injection h with h;have h':(xs.map Uu)=(ys.map Uu):=by simpa using congrArg Array.toList h
 exact (List.map_inj_right fun _ _=>B4y).1 h'
theorem A0p (l:List UInt64):B4m (J0 l)=some l:=by
 have h:∃m,J0 l=J0 m:=⟨l,rfl⟩;unfold B4m;rw[dif_pos h];exact congrArg some (D2u h.choose_spec).symm
theorem A7h {v:Value} {l:List UInt64} (h:B4m v=some l):v=J0 l:=by
 unfold B4m at h;split at h
 ·rename_i hh
  injection h with h;rw[←h];exact hh.choose_spec
 ·cases h
@[go_sem] theorem D8x (t : TypeId) (w : World) (raw : Result Next) (l : List UInt64) : Qi t w raw (J0 l) = .ok (.value (.pointer (some ⟨w.heap.size, 0, none⟩))) (w.alloc (.cells (E6 l).toArray t)) := rfl
noncomputable def A8a (n:Nat) (w:World) (raw:Result Next) (v:Value):Result Next:=match B4m v with
 | some l=>if l.length=n then .ok (.value (J0 l)) w else raw
 | none=>raw
@[go_sem] theorem D8u (n : Nat) (w : World) (raw : Result Next) (l : List UInt64) (h : l.length = n) : A8a n w raw (J0 l) = .ok (.value (J0 l)) w := by
 unfold A8a;rw[A0p];simp[h]
noncomputable def Af (v:Value):Option UInt64:=open Classical in if h:∃x,v=Uu x then some h.choose else none
theorem Oz (x:UInt64):Af (.int .u64 (H6 x))=some x:=by
 have h:∃y,Uu x=Uu y:=⟨x,rfl⟩;show Af (Uu x)=_;unfold Af;rw[dif_pos h];exact congrArg some (B4y h.choose_spec).symm
theorem Gp {v:Value} {x:UInt64} (h:Af v=some x):v=.int .u64 (H6 x):=by
 unfold Af at h;split at h
 ·rename_i hh
  injection h with h;rw[←h];exact hh.choose_spec
 ·cases h
@[go_sem ↓ high] theorem E8h (x : UInt64) (k : IntKind) : Op.shift .shl .u64 (H6 x) k 13 = pure (.int .u64 (H6 (x <<< 13))) := A7v x k 13 (by decide)
@[go_sem ↓ high] theorem E5n (x : UInt64) (k : IntKind) : Op.shift .shr .u64 (H6 x) k 51 = pure (.int .u64 (H6 (x >>> 51))) := Et x k 51 (by decide)
@[go_sem ↓ high] theorem E3u (x : UInt64) (k : IntKind) : Op.shift .shr .u64 (H6 x) k 63 = pure (.int .u64 (H6 (x >>> 63))) := Et x k 63 (by decide)
@[go_sem ↓ high] theorem F1x (x : UInt64) : Op.intBits .and .u64 (H6 x) 1 = pure (.int .u64 (H6 (x &&& 1))) := D0b x 1
@[go_sem ↓ high] theorem C3f (x : UInt64) : Op.intBits .and .u64 (H6 x) 4294967295 = pure (.int .u64 (H6 (x &&& 4294967295))) := D0b x 4294967295
@[go_sem ↓ high] theorem F2a (x : UInt8) : Op.intBits .and .u8 (n8 x) 15 = pure (.int .u8 (n8 (x &&& 15))) := E8g x 15
theorem Ss:(Tryz.prog.info? 214).map (·.size)=some 4:=by kernel_rfl
theorem D1m:((Tryz.prog.info? 214).bind (·.zero))=some (J0 (O8 4)):=by kernel_rfl
section
variable (w : World) (ρ : Operand → Value) (dst : Option Tmp) (ty : TypeId) (pos : String) (after : Array Edge) (guard : Option (Nat × Bool))
@[go_sem ↓ high] theorem F2d:RL' 214 4:=LL' Tryz.underlying214 Ss
@[go_sem ↓ high] theorem E7j:RS' 214 4:=SS' Ss
@[go_sem ↓ high] theorem E9c:RA' 214 (E6 (O8 4)).toArray:=fun w ρ dst ty pos after guard=>P7 w ρ dst ty pos after guard 214 (J0 (O8 4)) D1m
@[go_sem ↓ high] theorem F3o:RB' 214:=BX' _
end
theorem A6c:(Tryz.prog.info? 158).map (·.size)=some 5:=by kernel_rfl
theorem D2h:((Tryz.prog.info? 158).bind (·.zero))=some (J0 (O8 5)):=by kernel_rfl
theorem Vy:Tryz.prog.underlying 158=some (.struct (V9 Tryz.prog 158)):=by kernel_rfl
section
variable (w : World) (ρ : Operand → Value) (dst : Option Tmp) (ty : TypeId) (pos : String) (after : Array Edge) (guard : Option (Nat × Bool))
@[go_sem ↓ high] theorem F1u:RL' 158 5:=LL' Vy A6c
@[go_sem ↓ high] theorem D9v:RS' 158 5:=SS' A6c
@[go_sem ↓ high] theorem E0a:RA' 158 (E6 (O8 5)).toArray:=fun w ρ dst ty pos after guard=>P7 w ρ dst ty pos after guard 158 (J0 (O8 5)) D2h
@[go_sem ↓ high] theorem F4b:RB' 158:=BX' _
end
theorem A8q:(Tryz.prog.info? 275).map (·.size)=some 2:=by kernel_rfl
theorem D1c:((Tryz.prog.info? 275).bind (·.zero))=some (J0 (O8 2)):=by kernel_rfl
theorem A4n:Tryz.prog.underlying 275=some (.struct (V9 Tryz.prog 275)):=by kernel_rfl
section
variable (w : World) (ρ : Operand → Value) (dst : Option Tmp) (ty : TypeId) (pos : String) (after : Array Edge) (guard : Option (Nat × Bool))
@[go_sem ↓ high] theorem E2f:RS' 275 2:=SS' A8q
@[go_sem ↓ high] theorem E1q:RA' 275 (E6 (O8 2)).toArray:=fun w ρ dst ty pos after guard=>P7 w ρ dst ty pos after guard 275 (J0 (O8 2)) D1c
@[go_sem ↓ high] theorem F3f:RB' 275:=BX' _
end
theorem Il:(Tryz.prog.info? 216).map (·.size)=some 4:=by kernel_rfl
theorem C0a:((Tryz.prog.info? 216).bind (·.zero))=some (J0 (O8 4)):=by kernel_rfl
theorem Dq:Tryz.prog.underlying 216=some (.struct (V9 Tryz.prog 216)):=by kernel_rfl
section
variable (w : World) (ρ : Operand → Value) (dst : Option Tmp) (ty : TypeId) (pos : String) (after : Array Edge) (guard : Option (Nat × Bool))
@[go_sem ↓ high] theorem E1g:RS' 216 4:=SS' Il
@[go_sem ↓ high] theorem E0p:RA' 216 (E6 (O8 4)).toArray:=fun w ρ dst ty pos after guard=>P7 w ρ dst ty pos after guard 216 (J0 (O8 4)) C0a
@[go_sem ↓ high] theorem F3g:RB' 216:=BX' _
end
theorem B9v:(Tryz.prog.info? 160).map (·.size)=some 20:=by kernel_rfl
theorem A4i:Tryz.prog.underlying 160=some (.struct (V9 Tryz.prog 160)):=by kernel_rfl
section
variable (w : World) (ρ : Operand → Value) (dst : Option Tmp) (ty : TypeId) (pos : String) (after : Array Edge) (guard : Option (Nat × Bool))
@[go_sem ↓ high] theorem E9n:RS' 160 20:=SS' B9v
end
theorem A2k:(Tryz.prog.info? 269).map (·.size)=some 640:=by kernel_rfl
theorem C9i:((Tryz.prog.info? 269).bind (·.zero))=some (J0 (O8 640)):=by kernel_rfl
section
variable (w : World) (ρ : Operand → Value) (dst : Option Tmp) (ty : TypeId) (pos : String) (after : Array Edge) (guard : Option (Nat × Bool))
@[go_sem ↓ high] theorem E4o:RL' 269 640:=LL' Tryz.underlying269 A2k
@[go_sem ↓ high] theorem D9a:RS' 269 640:=SS' A2k
@[go_sem ↓ high] theorem D8w:RA' 269 (E6 (O8 640)).toArray:=fun w ρ dst ty pos after guard=>P7 w ρ dst ty pos after guard 269 (J0 (O8 640)) C9i
end
theorem A9j (w:World):(Instr.build 216 #[]).run Tryz.prog w=.ok (J0 (O8 4)) w:=by kernel_rfl
@[go_sem ↓ high] theorem D9c (w : World) (ρ : Operand → Value) (dst : Option Tmp) (ty : TypeId) (pos : String) (after : Array Edge) (guard : Option (Nat × Bool)) :
 (execOp ρ { dst,op:=.build 216 #[],type:=ty,pos,after,guard }).run Tryz.prog w=.ok (.value (J0 (O8 4))) w:=
 U8 w ρ dst ty pos after guard _ _ _ (by simp only[List.map_toArray,List.map_nil];exact A9j w)
theorem C3n (w:World):(Fh (V9 Tryz.prog 216)).run Tryz.prog w=.ok #[(0,4)] w:=by kernel_rfl
theorem B2r (l:List UInt64) (h:l.length=4) (w:World):(Instr.build 216 #[(0,J0 l)]).run Tryz.prog w=.ok (J0 l) w:=by
 have hz:(J0 (O8 4)).cells.toList=E6 (O8 4):=rfl;have h1:=U7 Dq C0a w (C3n w) #[(0,J0 l)] [(0,E6 l)] (by
  rw[hz];exact ⟨by simp[h],rfl,by simp[h],trivial⟩)
 refine h1.trans (congrArg (fun (cs:List Value)=>Result.ok (Value.agg cs.toArray) w) ?_);rw[hz];simp[Ib,Y7,h,List.drop_eq_nil_of_le,E6]
@[go_sem ↓ high] theorem E1u (w : World) (ρ : Operand → Value) (dst : Option Tmp) (ty : TypeId) (pos : String) (after : Array Edge) (guard : Option (Nat × Bool)) (x : Operand) :
 (execOp ρ { dst,op:=.build 216 #[(0,x)],type:=ty,pos,after,guard }).run Tryz.prog w=A8a 4 w (P8 Tryz.prog ρ { dst,op:=.build 216 #[(0,x)],type:=ty,pos,after,guard } w) (ρ x):=by
 generalize hx:ρ x=a;unfold A8a;split
 ·rename_i l hl
  replace hl:=A7h hl;split
  ·rename_i h
   refine U8 w ρ dst ty pos after guard _ _ _ ?_;simp only[List.map_toArray,List.map_cons,List.map_nil,hx,hl];exact B2r l h w
  ·rfl
 ·rfl
noncomputable def E7d (w:World) (raw:Result Next) (v0 v1 v2 v3 v4:Value):Result Next:=match Af v0,Af v1,Af v2,Af v3,Af v4 with
 | some x0,some x1,some x2,some x3,some x4=>.ok (.value (J0 [x0,x1,x2,x3,x4])) w
 | _,_,_,_,_=>raw
theorem A7k (x0 x1 x2 x3:UInt64) (w:World):(Instr.build 214 #[(0,.int .u64 (H6 x0)),(1,.int .u64 (H6 x1)),(2,.int .u64 (H6 x2)),(3,.int .u64 (H6 x3))]).run Tryz.prog w=.ok (J0 [x0,x1,x2,x3]) w:=by kernel_rfl
noncomputable def Ut (w:World) (raw:Result Next) (v0 v1 v2 v3:Value):Result Next:=match Af v0,Af v1,Af v2,Af v3 with
 | some x0,some x1,some x2,some x3=>.ok (.value (J0 [x0,x1,x2,x3])) w
 | _,_,_,_=>raw
@[go_sem ↓ high] theorem D8t (w : World) (ρ : Operand → Value) (dst : Option Tmp) (ty : TypeId) (pos : String) (after : Array Edge) (guard : Option (Nat × Bool)) (x0 x1 x2 x3 : Operand) :
 (execOp ρ { dst,op:=.build 214 #[(0,x0),(1,x1),(2,x2),(3,x3)],type:=ty,pos,after,guard }).run Tryz.prog w=Ut w (P8 Tryz.prog ρ { dst,op:=.build 214 #[(0,x0),(1,x1),(2,x2),(3,x3)],type:=ty,pos,after,guard } w) (ρ x0) (ρ x1) (ρ x2) (ρ x3):=by
 generalize h0:ρ x0=v0;generalize h1:ρ x1=v1;generalize h2:ρ x2=v2;generalize h3:ρ x3=v3;unfold Ut;split
 ·rename_i y0 y1 y2 y3 g0 g1 g2 g3
  refine U8 w ρ dst ty pos after guard _ _ _ ?_;simp only[List.map_toArray,List.map_cons,List.map_nil,h0,Gp g0,h1,Gp g1,h2,Gp g2,h3,Gp g3];exact A7k y0 y1 y2 y3 w
 ·rfl
theorem A8p (x0 x1:UInt64) (w:World):(Instr.build 275 #[(0,.int .u64 (H6 x0)),(1,.int .u64 (H6 x1))]).run Tryz.prog w=.ok (J0 [x0,x1]) w:=by kernel_rfl
noncomputable def Tk (w:World) (raw:Result Next) (v0 v1:Value):Result Next:=match Af v0,Af v1 with
 | some x0,some x1=>.ok (.value (J0 [x0,x1])) w
 | _,_=>raw
@[go_sem] theorem D4v (w : World) (raw : Result Next) (x0 x1 : UInt64) : Tk w raw (.int .u64 (H6 x0)) (.int .u64 (H6 x1)) = .ok (.value (J0 [x0, x1])) w := by
 unfold Tk;simp only[Oz]
@[go_sem ↓ high] theorem D9n (w : World) (ρ : Operand → Value) (dst : Option Tmp) (ty : TypeId) (pos : String) (after : Array Edge) (guard : Option (Nat × Bool)) (x0 x1 : Operand) :
 (execOp ρ { dst,op:=.build 275 #[(0,x0),(1,x1)],type:=ty,pos,after,guard }).run Tryz.prog w=Tk w (P8 Tryz.prog ρ { dst,op:=.build 275 #[(0,x0),(1,x1)],type:=ty,pos,after,guard } w) (ρ x0) (ρ x1):=by
 generalize h0:ρ x0=v0;generalize h1:ρ x1=v1;unfold Tk;split
 ·rename_i y0 y1 g0 g1
  refine U8 w ρ dst ty pos after guard _ _ _ ?_;simp only[List.map_toArray,List.map_cons,List.map_nil,h0,Gp g0,h1,Gp g1];exact A8p y0 y1 w
 ·rfl
def ptl (x y z t:List UInt64):List UInt64:=x++(y++(z++t))
theorem B7s {x y z t:List UInt64} (hx:x.length=5) (hy:y.length=5) (hz:z.length=5) (ht:t.length=5):(ptl x y z t).length=20:=by simp[ptl,hx,hy,hz,ht]
theorem Bk.row64 {w:World} {g:Nat} {t:TypeId} {l:List UInt64} {n:Nat} (h:Bk w g t (E6 l)) (hl:l.length=n):C6 w ⟨g,0,none⟩ n=some (E6 l):=by have:=h.rows;rwa [Ko,hl]at this
def Vx (x y c:UInt64):UInt64:=x+y+c
def A0d (x y c:UInt64):UInt64:=UInt64.ofNat ((x.toNat+y.toNat+c.toNat) / 18446744073709551616)
def C0l (x y b:UInt64):UInt64:=x-y-b
def C2i (x y b:UInt64):UInt64:=if x.toNat<y.toNat+b.toNat then 1 else 0
theorem B0k (x y c:UInt64) (hc:c.toNat≤1) (w:World):(callFunc 179 #[.int .u64 (H6 x),.int .u64 (H6 y),.int .u64 (H6 c)]).run Tryz.prog w=.ok (.value (.tuple #[.int .u64 (H6 (Vx x y c)),.int .u64 (H6 (A0d x y c))])) w:=by
 have hx:=Jo x;have hy:=Jo y;rw[run_callFunc_extern (fn:=Tryz.f179) Tryz.func179 (by kernel_rfl) (by kernel_rfl) (by kernel_rfl) (e:=add64Entry) (by kernel_rfl)];unfold H6;rw[run_add64 _ _ _ (by omega) (by omega) (by omega) (by omega)];have e1:(Vx x y c).toNat=(x.toNat+y.toNat+c.toNat) % 18446744073709551616:=by unfold Vx;rw[UInt64.toNat_add,UInt64.toNat_add];omega
 have e2:(A0d x y c).toNat=(x.toNat+y.toNat+c.toNat) / 18446744073709551616:=by unfold A0d;rw[UInt64.toNat_ofNat'];omega
 simp only[Result.andThen_ok];rw[e1,e2];congr 6<;>omega
theorem B6e (x y b:Nat) (hb:b≤1) (e:Array Value→Sem Value) (he:e=fun args=>do
 let (x, y, b) ← Extern.MathBitsCarry.three "Sub64" args
 pure (Extern.MathBitsCarry.pair ((x+Extern.MathBitsCarry.m64-y-b) % Extern.MathBitsCarry.m64) (if x<y+b then 1 else 0))) (w:World) :
 (e #[.int .u64 x,.int .u64 y,.int .u64 b]).run Tryz.prog w =
  .ok (.tuple #[.int .u64 (((x+18446744073709551616-y-b) % 18446744073709551616:Nat):Int),.int .u64 ((if x<y+b then 1 else 0:Nat):Int)]) w:=by
 subst he;have:b=0∨b=1:=by omega
 rcases this with rfl | rfl<;>rfl
theorem C4m (x y c:UInt64) (hc:c.toNat≤1) (w:World):(callFunc 209 #[.int .u64 (H6 x),.int .u64 (H6 y),.int .u64 (H6 c)]).run Tryz.prog w=.ok (.value (.tuple #[.int .u64 (H6 (C0l x y c)),.int .u64 (H6 (C2i x y c))])) w:=by
 have hx:=Jo x;have hy:=Jo y;rw[run_callFunc_extern (fn:=Tryz.f209) Tryz.func209 (by kernel_rfl) (by kernel_rfl) (by kernel_rfl) (e:=fun args=>do
  let (x, y, b) ← Extern.MathBitsCarry.three "Sub64" args
  pure (Extern.MathBitsCarry.pair ((x+Extern.MathBitsCarry.m64-y-b) % Extern.MathBitsCarry.m64) (if x<y+b then 1 else 0))) (by kernel_rfl)]
 unfold H6;rw[B6e _ _ _ hc _ rfl];have e1:(C0l x y c).toNat=(x.toNat+18446744073709551616-y.toNat-c.toNat) % 18446744073709551616:=by
  unfold C0l;rw[UInt64.toNat_sub,UInt64.toNat_sub];omega
 have e2:(C2i x y c).toNat=(if x.toNat<y.toNat+c.toNat then 1 else 0):=by unfold C2i;split<;>rfl
 simp only[Result.andThen_ok];rw[e1,e2]
attribute [go_sem] B0k C4m
@[go_sem] theorem D9e (x y : UInt64) (w : World) : (callFunc 179 #[.int .u64 (H6 x), .int .u64 (H6 y), .int .u64 0]).run Tryz.prog w = .ok (.value (.tuple #[.int .u64 (H6 (Vx x y 0)), .int .u64 (H6 (A0d x y 0))])) w := B0k x y 0 (by decide) w
@[go_sem] theorem D0y (x y c : UInt64) (hc : c.toNat ≤ 1) : (A0d x y c).toNat ≤ 1 := by
 have hx:=Jo x;have hy:=Jo y;unfold A0d;rw[UInt64.toNat_ofNat'];omega
@[go_sem] theorem D2b (x y c : UInt64) : (C2i x y c).toNat ≤ 1 := by
 unfold C2i;split<;>decide
def B0t (x y:UInt64):UInt64:=UInt64.ofNat (x.toNat*y.toNat / 18446744073709551616)
end
def C8o (x y:UInt64):UInt64:=
 let x0:=x &&& 4294967295
 let x1:=x >>> 32
 let y0:=y &&& 4294967295
 let y1:=y >>> 32
 let w0:=x0*y0
 let t:=x1*y0+w0 >>> 32
 let w1:=(t &&& 4294967295)+x0*y1
 x1*y1+t >>> 32+w1 >>> 32
theorem C6t (a b c d:Nat) (ha:a<4294967296) (hb:b<4294967296) (hc:c<4294967296) (hd:d<4294967296) :
 b*d+(b*c+a*c / 4294967296) / 4294967296+((b*c+a*c / 4294967296) % 4294967296+a*d) / 4294967296=(a+4294967296*b)*(c+4294967296*d) / 18446744073709551616:=by
 have e:(a+4294967296*b)*(c+4294967296*d)=a*c+4294967296*(b*c)+4294967296*(a*d)+18446744073709551616*(b*d):=by
  simp only[Nat.add_mul,Nat.mul_add];have e1:a*(4294967296*d)=4294967296*(a*d):=by rw[Nat.mul_left_comm]
  have e2:4294967296*b*c=4294967296*(b*c):=Nat.mul_assoc _ _ _;have e3:4294967296*b*(4294967296*d)=18446744073709551616*(b*d):=by rw[Nat.mul_assoc,Nat.mul_left_comm b];rw[←Nat.mul_assoc]
  rw[e1,e2,e3];omega
 rw[e];generalize a*c=p;generalize b*c=q;generalize a*d=r;generalize b*d=s;omega
theorem C3k (x y:UInt64):C8o x y=B0t x y:=by
 apply UInt64.toNat_inj.1;have hx:=Jo x;have hy:=Jo y;have aC:x.toNat % 4294967296<4294967296:=Nat.mod_lt _ (by decide);have aD:x.toNat / 4294967296<4294967296:=by omega
 have aE:y.toNat % 4294967296<4294967296:=Nat.mod_lt _ (by decide);have aF:y.toNat / 4294967296<4294967296:=by omega
 have aA:=C6t _ _ _ _ aC aD aE aF;have ex:x.toNat % 4294967296+4294967296*(x.toNat / 4294967296)=x.toNat:=by omega
 have ey:y.toNat % 4294967296+4294967296*(y.toNat / 4294967296)=y.toNat:=by omega
 rw[ex,ey]at aA;have b1:(x.toNat / 4294967296)*(y.toNat % 4294967296)≤4294967295*4294967295:=Nat.mul_le_mul (by omega) (by omega);have b2:(x.toNat % 4294967296)*(y.toNat % 4294967296)≤4294967295*4294967295:=Nat.mul_le_mul (by omega) (by omega);have b3:(x.toNat % 4294967296)*(y.toNat / 4294967296)≤4294967295*4294967295:=Nat.mul_le_mul (by omega) (by omega);have b4:(x.toNat / 4294967296)*(y.toNat / 4294967296)≤4294967295*4294967295:=Nat.mul_le_mul (by omega) (by omega);have m32:∀z:UInt64,(z &&& 4294967295).toNat=z.toNat % 4294967296:=fun z=>by
  rw[UInt64.toNat_and];exact Nat.and_two_pow_sub_one_eq_mod z.toNat 32
 have aB:∀z:UInt64,(z >>> 32).toNat=z.toNat / 4294967296:=fun z=>by
  rw[UInt64.toNat_shiftRight];exact Nat.shiftRight_eq_div_pow z.toNat 32
 unfold C8o B0t;simp only[UInt64.toNat_add,UInt64.toNat_mul,m32,aB,UInt64.toNat_ofNat'];have hk:x.toNat*y.toNat / 18446744073709551616<18446744073709551616:=by
  have:x.toNat*y.toNat<18446744073709551616*18446744073709551616:=Nat.mul_lt_mul'' hx hy;omega
 rw[←aA]at hk ⊢;generalize (x.toNat / 4294967296)*(y.toNat % 4294967296)=q at *;generalize (x.toNat % 4294967296)*(y.toNat % 4294967296)=p at *;generalize (x.toNat % 4294967296)*(y.toNat / 4294967296)=r at *;generalize (x.toNat / 4294967296)*(y.toNat / 4294967296)=s at *;clear aA ex ey m32 aB;omega
theorem Wc (x y:UInt64) (w:World):Calls Tryz.prog 181 #[.int .u64 (H6 x),.int .u64 (H6 y)] w fun e w'=>e=.returned (.tuple #[.int .u64 (H6 (B0t x y)),.int .u64 (H6 (x*y))])∧w'=w:=by
 rw[←C3k];go_enter Tryz.func181,Tryz.ntmps181;go_wp2;go_ret2
 exact ⟨rfl,rfl⟩
def Ly (x y:UInt64):List UInt64:=[B0t x y,x*y]
@[simp, go_sem] theorem D5n (x y : UInt64) : (Ly x y).length = 2 := rfl
def U5 (p:List UInt64) (x y:UInt64):List UInt64:=[Vx (B0t x y) (E7 p 0) (A0d (x*y) (E7 p 1) 0),Vx (x*y) (E7 p 1) 0]
@[simp, go_sem] theorem D3k (p : List UInt64) (x y : UInt64) : (U5 p x y).length = 2 := rfl
def over (p:List UInt64):UInt64:=E7 p 0 <<< 13 ||| E7 p 1 >>> (51:UInt64)
def Gg (a:List UInt64):List UInt64:=[(E7 a 0 &&& (2251799813685247:UInt64))+19*(E7 a 4 >>> (51:UInt64)),(E7 a 1 &&& (2251799813685247:UInt64))+E7 a 0 >>> (51:UInt64),(E7 a 2 &&& (2251799813685247:UInt64))+E7 a 1 >>> (51:UInt64),(E7 a 3 &&& (2251799813685247:UInt64))+E7 a 2 >>> (51:UInt64),(E7 a 4 &&& (2251799813685247:UInt64))+E7 a 3 >>> (51:UInt64)]
def D7l (t0 t1 t2 t3 t4:List UInt64):List UInt64:=[(E7 t0 1 &&& (2251799813685247:UInt64))+19*over t4,(E7 t1 1 &&& (2251799813685247:UInt64))+over t0,(E7 t2 1 &&& (2251799813685247:UInt64))+over t1,(E7 t3 1 &&& (2251799813685247:UInt64))+over t2,(E7 t4 1 &&& (2251799813685247:UInt64))+over t3]
def Nc (t0 t1 t2 t3 t4:List UInt64):List UInt64:=Gg (D7l t0 t1 t2 t3 t4)
theorem B0q (x y:UInt64) (w:World):Calls Tryz.prog 173 #[.int .u64 (H6 x),.int .u64 (H6 y)] w fun e w'=>e=.returned (J0 (Ly x y))∧Below w.heap.size w w':=by
 obtain⟨W0,aA⟩:∃z,z=w.alloc (Obj.cells (E6 (O8 2)).toArray 275):=⟨_,rfl⟩;have B0:Below w.heap.size w W0:=by rw[aA];exact (Below.refl _ _).alloc (Nat.le_refl _) _
 have R0:Bk W0 w.heap.size 275 (E6 (O8 2)):=by rw[aA];exact Bk.new w _ _
 have aB:E4 W0 ⟨w.heap.size,0,none⟩ 2=true:=R0.can (by simp);go_enter Tryz.func173,Tryz.ntmps173;go_wp2_with fail;rw[←aA];clear aA;refine (Wc x y W0).mono ?_;rintro e w1 ⟨rfl,rfl⟩;go_wp2_with fail;refine bodyPost_ret (C8 rfl _ _ _ _ _ _ rfl (R0.puts (vs:=E6 (Ly x y)) (by simp)) A4n rfl (by simp[A8q])) rfl ⟨rfl,C1 B0 (Nat.le_refl _) _⟩
theorem C8i (p:List UInt64) (hp:p.length=2) (x y:UInt64) (w:World):Calls Tryz.prog 174 #[J0 p,.int .u64 (H6 x),.int .u64 (H6 y)] w fun e w'=>e=.returned (J0 (U5 p x y))∧Below w.heap.size w w':=by
 obtain⟨W0,aA⟩:∃z,z=(w.alloc (Obj.cells (E6 p).toArray 275)).alloc (Obj.cells (E6 (O8 2)).toArray 275):=⟨_,rfl⟩;have B0:Below w.heap.size w W0:=by rw[aA];exact ((Below.refl _ _).alloc (Nat.le_refl _) _).alloc (by simp) _
 have P0:Bk W0 w.heap.size 275 (E6 p):=by rw[aA];exact (Bk.new w _ _).alloc _
 have R0:Bk W0 (w.heap.size+1) 275 (E6 (O8 2)):=by rw[aA];simpa using Bk.new (w.alloc (Obj.cells (E6 p).toArray 275)) 275 (E6 (O8 2))
 have aB:E4 W0 ⟨w.heap.size+1,0,none⟩ 2=true:=R0.can (by simp);have p0:=P0.at_ (Q1 (l:=p) (i:=0) (by omega));have p1:=P0.at_ (Q1 (l:=p) (i:=1) (by omega));go_enter Tryz.func174,Tryz.ntmps174;go_wp2_with fail;rw[←aA];clear aA;refine (Wc x y W0).mono ?_;rintro e w1 ⟨rfl,rfl⟩;go_wp2_with fail;refine bodyPost_ret (C8 rfl _ _ _ _ _ _ rfl (R0.puts (vs:=E6 (U5 p x y)) (by simp)) A4n rfl (by simp[A8q])) rfl ⟨rfl,C1 B0 (by simp) _⟩
theorem C7l (p:List UInt64) (hp:p.length=2) (w:World):Calls Tryz.prog 202 #[J0 p] w fun e w'=>e=.returned (.int .u64 (H6 (over p)))∧Below w.heap.size w w':=by
 obtain⟨W0,aA⟩:∃z,z=w.alloc (Obj.cells (E6 p).toArray 275):=⟨_,rfl⟩;have B0:Below w.heap.size w W0:=by rw[aA];exact (Below.refl _ _).alloc (Nat.le_refl _) _
 have P0:Bk W0 w.heap.size 275 (E6 p):=by rw[aA];exact Bk.new w _ _
 have p0:=P0.at_ (Q1 (l:=p) (i:=0) (by omega));have p1:=P0.at_ (Q1 (l:=p) (i:=1) (by omega));rw[aA]at p0 p1;go_enter Tryz.func202,Tryz.ntmps202;go_wp2_with fail;rw[←aA];clear aA;go_ret;exact ⟨rfl,B0⟩
end Go.Proofs.YtdfpoofbgjilgaaGreat
