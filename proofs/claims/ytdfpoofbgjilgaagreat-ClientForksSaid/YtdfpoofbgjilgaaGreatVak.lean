/- A part of the proof of ClientForks. -/
import Derived.Laws.Externs
import Derived.Test.YtdfpoofbgjilgaaGreatVaj
set_option linter.unusedVariables false
set_option linter.unusedSimpArgs false
set_option maxRecDepth 100000
set_option maxHeartbeats 40000000
namespace Go.Proofs.YtdfpoofbgjilgaaGreat
open Go Go.RowKit Sh
abbrev RL' (t n : TypeId) : Prop := ∀ (w : World) (ρ : Operand → Value) (dst : Option Tmp) (ty : TypeId) (pos : String) (after : Array Edge) (guard : Option (Nat × Bool)) (x : Operand),
    (execOp ρ { dst, op := .load t x, type := ty, pos, after, guard }).run Tryz.prog w = Iy n w (F2 Tryz.prog ρ { dst, op := .load t x, type := ty, pos, after, guard } w) (ρ x)
theorem LL' {t n : TypeId} {d : TypeDesc} (hu : Tryz.prog.underlying t = some d) (hi : (Tryz.prog.info? t).map (·.size) = some n) (hn : 0 < n := by decide) (hd : d.isRow = true := by rfl) : RL' t n :=
  fun w ρ dst ty pos after guard x => Eu w ρ dst ty pos after guard t n d x hn hu hd hi
abbrev RS' (t n : TypeId) : Prop := ∀ (w : World) (ρ : Operand → Value) (dst : Option Tmp) (ty : TypeId) (pos : String) (after : Array Edge) (guard : Option (Nat × Bool)) (x y : Operand),
    (execOp ρ { dst, op := .store t x y, type := ty, pos, after, guard }).run Tryz.prog w = Y6 n w (F2 Tryz.prog ρ { dst, op := .store t x y, type := ty, pos, after, guard } w) (ρ x) (ρ y)
theorem SS' {t n : TypeId} (hi : (Tryz.prog.info? t).map (·.size) = some n) (hn : 0 < n := by decide) : RS' t n :=
  fun w ρ dst ty pos after guard x y => Dd w ρ dst ty pos after guard t n x y hn hi
abbrev RA' (t : TypeId) (c : Array Value) : Prop := ∀ (w : World) (ρ : Operand → Value) (dst : Option Tmp) (ty : TypeId) (pos : String) (after : Array Edge) (guard : Option (Nat × Bool)),
    (execOp ρ { dst, op := .alloc t, type := ty, pos, after, guard }).run Tryz.prog w = .ok (.value (.pointer (some ⟨w.heap.size, 0, none⟩))) (w.alloc (.cells c t))
abbrev RB' (t : TypeId) : Prop := ∀ (w : World) (ρ : Operand → Value) (dst : Option Tmp) (ty : TypeId) (pos : String) (after : Array Edge) (guard : Option (Nat × Bool)) (x : Operand),
    (execOp ρ { dst, op := .box t x, type := ty, pos, after, guard }).run Tryz.prog w = Jx t w (F2 Tryz.prog ρ { dst, op := .box t x, type := ty, pos, after, guard } w) (ρ x)
theorem BX' (t : TypeId) : RB' t := fun w ρ dst ty pos after guard x => Yv w ρ dst ty pos after guard t x
section
theorem B8p (x y:UInt64):Op.intArith .sub .u64 (C8 x) (C8 y)=pure (.int .u64 (C8 (x-y))):=by
 unfold Op.intArith C8;have hx:=Hi x;have hy:=Hi y;have e:IntKind.u64.wrap ((x.toNat:Int)-(y.toNat:Int))=(((18446744073709551616-y.toNat+x.toNat) % 18446744073709551616:Nat):Int):=by
  simp only[IntKind.wrap,IntKind.bits,IntKind.signed,Bool.false_and,Bool.false_eq_true,if_false];omega
 rw[e,UInt64.toNat_sub]
attribute [go_sem ↓ high] B8p
noncomputable def Zv (v:Value):Option (List UInt64):=open Classical in if h:∃l,v=F8 l then some h.choose else none
theorem B5v {x y:UInt64} (h:Us x=Us y):x=y:=by
 unfold Us at h;injection h with _ h;exact A6f h
theorem D4w {xs ys:List UInt64} (h:F8 xs=F8 ys):xs=ys:=by
 unfold F8 E4 at h;injection h with h;have h':(xs.map Us)=(ys.map Us):=by simpa using congrArg Array.toList h
 exact (List.map_inj_right fun _ _=>B5v).1 h'
theorem A0c (l:List UInt64):Zv (F8 l)=some l:=by
 have h:∃m,F8 l=F8 m:=⟨l,rfl⟩;unfold Zv;rw[dif_pos h];exact congrArg some (D4w h.choose_spec).symm
theorem Fa {v:Value} {l:List UInt64} (h:Zv v=some l):v=F8 l:=by
 unfold Zv at h;split at h
 ·rename_i hh
  injection h with h;rw[←h];exact hh.choose_spec
 ·cases h
@[go_sem] theorem E4c (t : TypeId) (w : World) (raw : Result Next) (l : List UInt64) : Jx t w raw (F8 l) = .ok (.value (.pointer (some ⟨w.heap.size, 0, none⟩))) (w.alloc (.cells (E4 l).toArray t)) := rfl
noncomputable def Vp (n:Nat) (w:World) (raw:Result Next) (v:Value):Result Next:=match Zv v with
 | some l=>if l.length=n then .ok (.value (F8 l)) w else raw
 | none=>raw
@[go_sem] theorem E4o (n : Nat) (w : World) (raw : Result Next) (l : List UInt64) (h : l.length = n) : Vp n w raw (F8 l) = .ok (.value (F8 l)) w := by
 unfold Vp;rw[A0c];simp[h]
noncomputable def Y8 (v:Value):Option UInt64:=open Classical in if h:∃x,v=Us x then some h.choose else none
theorem Js (x:UInt64):Y8 (.int .u64 (C8 x))=some x:=by
 have h:∃y,Us x=Us y:=⟨x,rfl⟩;show Y8 (Us x)=_;unfold Y8;rw[dif_pos h];exact congrArg some (B5v h.choose_spec).symm
theorem X9 {v:Value} {x:UInt64} (h:Y8 v=some x):v=.int .u64 (C8 x):=by
 unfold Y8 at h;split at h
 ·rename_i hh
  injection h with h;rw[←h];exact hh.choose_spec
 ·cases h
@[go_sem ↓ high] theorem F4j (x : UInt64) (k : IntKind) : Op.shift .shr .u64 (C8 x) k 4 = pure (.int .u64 (C8 (x >>> 4))) := V9 x k 4 (by decide)
@[go_sem ↓ high] theorem F4f (x : UInt64) (k : IntKind) : Op.shift .shl .u64 (C8 x) k 4 = pure (.int .u64 (C8 (x <<< 4))) := U4 x k 4 (by decide)
@[go_sem ↓ high] theorem F4z (x : UInt64) (k : IntKind) : Op.shift .shr .u64 (C8 x) k 5 = pure (.int .u64 (C8 (x >>> 5))) := V9 x k 5 (by decide)
@[go_sem ↓ high] theorem F3v (x : UInt64) (k : IntKind) : Op.shift .shl .u64 (C8 x) k 5 = pure (.int .u64 (C8 (x <<< 5))) := U4 x k 5 (by decide)
@[go_sem ↓ high] theorem E7d (x : UInt64) (k : IntKind) : Op.shift .shr .u64 (C8 x) k 12 = pure (.int .u64 (C8 (x >>> 12))) := V9 x k 12 (by decide)
@[go_sem ↓ high] theorem F1n (x : UInt64) (k : IntKind) : Op.shift .shl .u64 (C8 x) k 12 = pure (.int .u64 (C8 (x <<< 12))) := U4 x k 12 (by decide)
@[go_sem ↓ high] theorem F1l (x : UInt64) (k : IntKind) : Op.shift .shr .u64 (C8 x) k 13 = pure (.int .u64 (C8 (x >>> 13))) := V9 x k 13 (by decide)
@[go_sem ↓ high] theorem F1t (x : UInt64) (k : IntKind) : Op.shift .shl .u64 (C8 x) k 13 = pure (.int .u64 (C8 (x <<< 13))) := U4 x k 13 (by decide)
@[go_sem ↓ high] theorem F1f (x : UInt64) (k : IntKind) : Op.shift .shr .u64 (C8 x) k 25 = pure (.int .u64 (C8 (x >>> 25))) := V9 x k 25 (by decide)
@[go_sem ↓ high] theorem E8u (x : UInt64) (k : IntKind) : Op.shift .shl .u64 (C8 x) k 25 = pure (.int .u64 (C8 (x <<< 25))) := U4 x k 25 (by decide)
@[go_sem ↓ high] theorem F2d (x : UInt64) (k : IntKind) : Op.shift .shr .u64 (C8 x) k 26 = pure (.int .u64 (C8 (x >>> 26))) := V9 x k 26 (by decide)
@[go_sem ↓ high] theorem E9n (x : UInt64) (k : IntKind) : Op.shift .shl .u64 (C8 x) k 26 = pure (.int .u64 (C8 (x <<< 26))) := U4 x k 26 (by decide)
@[go_sem ↓ high] theorem E7h (x : UInt64) (k : IntKind) : Op.shift .shr .u64 (C8 x) k 38 = pure (.int .u64 (C8 (x >>> 38))) := V9 x k 38 (by decide)
@[go_sem ↓ high] theorem E7s (x : UInt64) (k : IntKind) : Op.shift .shl .u64 (C8 x) k 38 = pure (.int .u64 (C8 (x <<< 38))) := U4 x k 38 (by decide)
@[go_sem ↓ high] theorem E7x (x : UInt64) (k : IntKind) : Op.shift .shr .u64 (C8 x) k 39 = pure (.int .u64 (C8 (x >>> 39))) := V9 x k 39 (by decide)
@[go_sem ↓ high] theorem F0u (x : UInt64) (k : IntKind) : Op.shift .shl .u64 (C8 x) k 39 = pure (.int .u64 (C8 (x <<< 39))) := U4 x k 39 (by decide)
@[go_sem ↓ high] theorem E5t (x : UInt64) (k : IntKind) : Op.shift .shr .u64 (C8 x) k 51 = pure (.int .u64 (C8 (x >>> 51))) := V9 x k 51 (by decide)
@[go_sem ↓ high] theorem F0o (x : UInt64) (k : IntKind) : Op.shift .shl .u64 (C8 x) k 51 = pure (.int .u64 (C8 (x <<< 51))) := U4 x k 51 (by decide)
@[go_sem ↓ high] theorem F1v (x : UInt64) (k : IntKind) : Op.shift .shr .u64 (C8 x) k 60 = pure (.int .u64 (C8 (x >>> 60))) := V9 x k 60 (by decide)
@[go_sem ↓ high] theorem E8v (x : UInt64) (k : IntKind) : Op.shift .shl .u64 (C8 x) k 60 = pure (.int .u64 (C8 (x <<< 60))) := U4 x k 60 (by decide)
@[go_sem ↓ high] theorem F0f (x : UInt64) (k : IntKind) : Op.shift .shr .u64 (C8 x) k 63 = pure (.int .u64 (C8 (x >>> 63))) := V9 x k 63 (by decide)
@[go_sem ↓ high] theorem F2m (x : UInt64) (k : IntKind) : Op.shift .shl .u64 (C8 x) k 63 = pure (.int .u64 (C8 (x <<< 63))) := U4 x k 63 (by decide)
@[go_sem ↓ high] theorem F4q (x : UInt64) : Op.intBits .and .u64 (C8 x) 1 = pure (.int .u64 (C8 (x &&& 1))) := A9o x 1
@[go_sem ↓ high] theorem E9g (x : UInt64) : Op.intBits .and .u64 (C8 x) 15 = pure (.int .u64 (C8 (x &&& 15))) := A9o x 15
@[go_sem ↓ high] theorem C3k (x : UInt64) : Op.intBits .and .u64 (C8 x) 4294967295 = pure (.int .u64 (C8 (x &&& 4294967295))) := A9o x 4294967295
@[go_sem ↓ high] theorem A6c (x : UInt64) : Op.intBits .and .u64 (C8 x) 2251799813685247 = pure (.int .u64 (C8 (x &&& 2251799813685247))) := A9o x 2251799813685247
@[go_sem ↓ high] theorem F6x (x : UInt8) : Op.intBits .and .u8 (n8 x) 1 = pure (.int .u8 (n8 (x &&& 1))) := C9v x 1
@[go_sem ↓ high] theorem F2w (x : UInt8) : Op.intBits .and .u8 (n8 x) 15 = pure (.int .u8 (n8 (x &&& 15))) := C9v x 15
@[go_sem ↓ high] theorem E6n (x : UInt8) : Op.intBits .and .u8 (n8 x) 127 = pure (.int .u8 (n8 (x &&& 127))) := C9v x 127
@[go_sem ↓ high] theorem F2n (x : UInt8) : Op.intBits .and .u8 (n8 x) 248 = pure (.int .u8 (n8 (x &&& 248))) := C9v x 248
@[go_sem ↓ high] theorem F6m (x : UInt8) : Op.intBits .or .u8 (n8 x) 64 = pure (.int .u8 (n8 (x ||| 64))) := or8 x 64
@[go_sem ↓ high] theorem F3f (x : UInt8) : Op.intBits .or .u8 (n8 x) 128 = pure (.int .u8 (n8 (x ||| 128))) := or8 x 128
@[go_sem ↓ high] theorem F5h (x : UInt64) : Op.intArith .mul .u64 2 (C8 x) = pure (.int .u64 (C8 (2 * x))) := A5w 2 x
@[go_sem ↓ high] theorem E5n (x : UInt64) : Op.intArith .mul .u64 19 (C8 x) = pure (.int .u64 (C8 (19 * x))) := A5w 19 x
@[go_sem ↓ high] theorem E6d (x : UInt64) : Op.intArith .add .u64 (C8 x) 19 = pure (.int .u64 (C8 (x + 19))) := add64 x 19
@[go_sem ↓ high] theorem E8p (x : UInt64) : Op.intArith .sub .u64 (C8 x) 72 = pure (.int .u64 (C8 (x - 72))) := B8p x 72
@[go_sem ↓ high] theorem F2f (x : UInt64) : Op.intArith .sub .u64 9007199254740988 (C8 x) = pure (.int .u64 (C8 (9007199254740988 - x))) := B8p 9007199254740988 x
theorem C0v:(Tryz.prog.info? 156).map (·.size)=some 5:=by kernel_rfl
theorem D4u:((Tryz.prog.info? 156).bind (·.zero))=some (F8 (J7 5)):=by kernel_rfl
section
variable (w : World) (ρ : Operand → Value) (dst : Option Tmp) (ty : TypeId) (pos : String) (after : Array Edge) (guard : Option (Nat × Bool))
@[go_sem ↓ high] theorem F4w:RL' 156 5:=LL' Tryz.underlying156 C0v
@[go_sem ↓ high] theorem E6m:RS' 156 5:=SS' C0v
@[go_sem ↓ high] theorem E8g:RA' 156 (E4 (J7 5)).toArray:=fun w ρ dst ty pos after guard=>I7 w ρ dst ty pos after guard 156 (F8 (J7 5)) D4u
@[go_sem ↓ high] theorem F7p:RB' 156:=BX' _
end
theorem Sr:(Tryz.prog.info? 214).map (·.size)=some 4:=by kernel_rfl
theorem D6b:((Tryz.prog.info? 214).bind (·.zero))=some (F8 (J7 4)):=by kernel_rfl
section
variable (w : World) (ρ : Operand → Value) (dst : Option Tmp) (ty : TypeId) (pos : String) (after : Array Edge) (guard : Option (Nat × Bool))
@[go_sem ↓ high] theorem F4c:RL' 214 4:=LL' Tryz.underlying214 Sr
@[go_sem ↓ high] theorem E6s:RS' 214 4:=SS' Sr
@[go_sem ↓ high] theorem E7z:RA' 214 (E4 (J7 4)).toArray:=fun w ρ dst ty pos after guard=>I7 w ρ dst ty pos after guard 214 (F8 (J7 4)) D6b
@[go_sem ↓ high] theorem F7e:RB' 214:=BX' _
end
theorem A6w:(Tryz.prog.info? 158).map (·.size)=some 5:=by kernel_rfl
theorem B8w:((Tryz.prog.info? 158).bind (·.zero))=some (F8 (J7 5)):=by kernel_rfl
theorem Pe:Tryz.prog.underlying 158=some (.struct (I2 Tryz.prog 158)):=by kernel_rfl
section
variable (w : World) (ρ : Operand → Value) (dst : Option Tmp) (ty : TypeId) (pos : String) (after : Array Edge) (guard : Option (Nat × Bool))
@[go_sem ↓ high] theorem F3n:RL' 158 5:=LL' Pe A6w
@[go_sem ↓ high] theorem F0v:RS' 158 5:=SS' A6w
@[go_sem ↓ high] theorem E9x:RA' 158 (E4 (J7 5)).toArray:=fun w ρ dst ty pos after guard=>I7 w ρ dst ty pos after guard 158 (F8 (J7 5)) B8w
@[go_sem ↓ high] theorem F7i:RB' 158:=BX' _
end
theorem Xv:(Tryz.prog.info? 275).map (·.size)=some 2:=by kernel_rfl
theorem D6h:((Tryz.prog.info? 275).bind (·.zero))=some (F8 (J7 2)):=by kernel_rfl
theorem Vf:Tryz.prog.underlying 275=some (.struct (I2 Tryz.prog 275)):=by kernel_rfl
section
variable (w : World) (ρ : Operand → Value) (dst : Option Tmp) (ty : TypeId) (pos : String) (after : Array Edge) (guard : Option (Nat × Bool))
@[go_sem ↓ high] theorem F4s:RL' 275 2:=LL' Vf Xv
@[go_sem ↓ high] theorem E9q:RS' 275 2:=SS' Xv
@[go_sem ↓ high] theorem E9i:RA' 275 (E4 (J7 2)).toArray:=fun w ρ dst ty pos after guard=>I7 w ρ dst ty pos after guard 275 (F8 (J7 2)) D6h
@[go_sem ↓ high] theorem F8d:RB' 275:=BX' _
end
theorem Gg:(Tryz.prog.info? 216).map (·.size)=some 4:=by kernel_rfl
theorem B8m:((Tryz.prog.info? 216).bind (·.zero))=some (F8 (J7 4)):=by kernel_rfl
theorem Cb:Tryz.prog.underlying 216=some (.struct (I2 Tryz.prog 216)):=by kernel_rfl
section
variable (w : World) (ρ : Operand → Value) (dst : Option Tmp) (ty : TypeId) (pos : String) (after : Array Edge) (guard : Option (Nat × Bool))
@[go_sem ↓ high] theorem F3i:RL' 216 4:=LL' Cb Gg
@[go_sem ↓ high] theorem F2a:RS' 216 4:=SS' Gg
@[go_sem ↓ high] theorem E8h:RA' 216 (E4 (J7 4)).toArray:=fun w ρ dst ty pos after guard=>I7 w ρ dst ty pos after guard 216 (F8 (J7 4)) B8m
@[go_sem ↓ high] theorem F7n:RB' 216:=BX' _
end
theorem A8h:(Tryz.prog.info? 160).map (·.size)=some 20:=by kernel_rfl
theorem C0n:((Tryz.prog.info? 160).bind (·.zero))=some (F8 (J7 20)):=by kernel_rfl
theorem Pm:Tryz.prog.underlying 160=some (.struct (I2 Tryz.prog 160)):=by kernel_rfl
section
variable (w : World) (ρ : Operand → Value) (dst : Option Tmp) (ty : TypeId) (pos : String) (after : Array Edge) (guard : Option (Nat × Bool))
@[go_sem ↓ high] theorem F3h:RL' 160 20:=LL' Pm A8h
@[go_sem ↓ high] theorem E7w:RS' 160 20:=SS' A8h
@[go_sem ↓ high] theorem E5r:RA' 160 (E4 (J7 20)).toArray:=fun w ρ dst ty pos after guard=>I7 w ρ dst ty pos after guard 160 (F8 (J7 20)) C0n
@[go_sem ↓ high] theorem F5w:RB' 160:=BX' _
end
theorem B1z:(Tryz.prog.info? 206).map (·.size)=some 320:=by kernel_rfl
theorem C9p:((Tryz.prog.info? 206).bind (·.zero))=some (F8 (J7 320)):=by kernel_rfl
section
variable (w : World) (ρ : Operand → Value) (dst : Option Tmp) (ty : TypeId) (pos : String) (after : Array Edge) (guard : Option (Nat × Bool))
@[go_sem ↓ high] theorem E6z:RL' 206 320:=LL' Tryz.underlying206 B1z
@[go_sem ↓ high] theorem E3t:RS' 206 320:=SS' B1z
@[go_sem ↓ high] theorem E3f:RA' 206 (E4 (J7 320)).toArray:=fun w ρ dst ty pos after guard=>I7 w ρ dst ty pos after guard 206 (F8 (J7 320)) C9p
@[go_sem ↓ high] theorem F5d:RB' 206:=BX' _
end
theorem Zp:(Tryz.prog.info? 269).map (·.size)=some 640:=by kernel_rfl
theorem D0f:((Tryz.prog.info? 269).bind (·.zero))=some (F8 (J7 640)):=by kernel_rfl
section
variable (w : World) (ρ : Operand → Value) (dst : Option Tmp) (ty : TypeId) (pos : String) (after : Array Edge) (guard : Option (Nat × Bool))
@[go_sem ↓ high] theorem E5c:RL' 269 640:=LL' Tryz.underlying269 Zp
@[go_sem ↓ high] theorem E4l:RS' 269 640:=SS' Zp
@[go_sem ↓ high] theorem E2v:RA' 269 (E4 (J7 640)).toArray:=fun w ρ dst ty pos after guard=>I7 w ρ dst ty pos after guard 269 (F8 (J7 640)) D0f
@[go_sem ↓ high] theorem F3s:RB' 269:=BX' _
end
theorem B3h (w:World):(Instr.build 156 #[]).run Tryz.prog w=.ok (F8 (J7 5)) w:=by kernel_rfl
@[go_sem ↓ high] theorem E3o (w : World) (ρ : Operand → Value) (dst : Option Tmp) (ty : TypeId) (pos : String) (after : Array Edge) (guard : Option (Nat × Bool)) :
 (execOp ρ { dst,op:=.build 156 #[],type:=ty,pos,after,guard }).run Tryz.prog w=.ok (.value (F8 (J7 5))) w:=
 E9 w ρ dst ty pos after guard _ _ _ (by simp only[List.map_toArray,List.map_nil];exact B3h w)
theorem B3v (w:World):(Instr.build 214 #[]).run Tryz.prog w=.ok (F8 (J7 4)) w:=by kernel_rfl
@[go_sem ↓ high] theorem E4m (w : World) (ρ : Operand → Value) (dst : Option Tmp) (ty : TypeId) (pos : String) (after : Array Edge) (guard : Option (Nat × Bool)) :
 (execOp ρ { dst,op:=.build 214 #[],type:=ty,pos,after,guard }).run Tryz.prog w=.ok (.value (F8 (J7 4))) w:=
 E9 w ρ dst ty pos after guard _ _ _ (by simp only[List.map_toArray,List.map_nil];exact B3v w)
theorem A8q (w:World):(Instr.build 257 #[]).run Tryz.prog w=.ok (F8 (J7 8)) w:=by kernel_rfl
@[go_sem ↓ high] theorem E1c (w : World) (ρ : Operand → Value) (dst : Option Tmp) (ty : TypeId) (pos : String) (after : Array Edge) (guard : Option (Nat × Bool)) :
 (execOp ρ { dst,op:=.build 257 #[],type:=ty,pos,after,guard }).run Tryz.prog w=.ok (.value (F8 (J7 8))) w:=
 E9 w ρ dst ty pos after guard _ _ _ (by simp only[List.map_toArray,List.map_nil];exact A8q w)
theorem B0n (w:World):(Instr.build 158 #[]).run Tryz.prog w=.ok (F8 (J7 5)) w:=by kernel_rfl
@[go_sem ↓ high] theorem E4y (w : World) (ρ : Operand → Value) (dst : Option Tmp) (ty : TypeId) (pos : String) (after : Array Edge) (guard : Option (Nat × Bool)) :
 (execOp ρ { dst,op:=.build 158 #[],type:=ty,pos,after,guard }).run Tryz.prog w=.ok (.value (F8 (J7 5))) w:=
 E9 w ρ dst ty pos after guard _ _ _ (by simp only[List.map_toArray,List.map_nil];exact B0n w)
theorem B0b (w:World):(Instr.build 216 #[]).run Tryz.prog w=.ok (F8 (J7 4)) w:=by kernel_rfl
@[go_sem ↓ high] theorem E4u (w : World) (ρ : Operand → Value) (dst : Option Tmp) (ty : TypeId) (pos : String) (after : Array Edge) (guard : Option (Nat × Bool)) :
 (execOp ρ { dst,op:=.build 216 #[],type:=ty,pos,after,guard }).run Tryz.prog w=.ok (.value (F8 (J7 4))) w:=
 E9 w ρ dst ty pos after guard _ _ _ (by simp only[List.map_toArray,List.map_nil];exact B0b w)
theorem B2o (w:World):(Instr.build 160 #[]).run Tryz.prog w=.ok (F8 (J7 20)) w:=by kernel_rfl
@[go_sem ↓ high] theorem E3c (w : World) (ρ : Operand → Value) (dst : Option Tmp) (ty : TypeId) (pos : String) (after : Array Edge) (guard : Option (Nat × Bool)) :
 (execOp ρ { dst,op:=.build 160 #[],type:=ty,pos,after,guard }).run Tryz.prog w=.ok (.value (F8 (J7 20))) w:=
 E9 w ρ dst ty pos after guard _ _ _ (by simp only[List.map_toArray,List.map_nil];exact B2o w)
theorem C3b (w:World):(Z3 (I2 Tryz.prog 158)).run Tryz.prog w=.ok #[(0,5)] w:=by kernel_rfl
theorem B1w (l:List UInt64) (h:l.length=5) (w:World):(Instr.build 158 #[(0,F8 l)]).run Tryz.prog w=.ok (F8 l) w:=by
 have hz:(F8 (J7 5)).cells.toList=E4 (J7 5):=rfl;have h1:=I3 Pe B8w w (C3b w) #[(0,F8 l)] [(0,E4 l)] (by
  rw[hz];exact ⟨by simp[h],rfl,by simp[h],trivial⟩)
 refine h1.trans (congrArg (fun (cs:List Value)=>Result.ok (Value.agg cs.toArray) w) ?_);rw[hz];simp[Bg,N9,h,List.drop_eq_nil_of_le,E4]
@[go_sem ↓ high] theorem F1r (w : World) (ρ : Operand → Value) (dst : Option Tmp) (ty : TypeId) (pos : String) (after : Array Edge) (guard : Option (Nat × Bool)) (x : Operand) :
 (execOp ρ { dst,op:=.build 158 #[(0,x)],type:=ty,pos,after,guard }).run Tryz.prog w=Vp 5 w (F2 Tryz.prog ρ { dst,op:=.build 158 #[(0,x)],type:=ty,pos,after,guard } w) (ρ x):=by
 generalize hx:ρ x=a;unfold Vp;split
 ·rename_i l hl
  replace hl:=Fa hl;split
  ·rename_i h
   refine E9 w ρ dst ty pos after guard _ _ _ ?_;simp only[List.map_toArray,List.map_cons,List.map_nil,hx,hl];exact B1w l h w
  ·rfl
 ·rfl
theorem C3g (w:World):(Z3 (I2 Tryz.prog 216)).run Tryz.prog w=.ok #[(0,4)] w:=by kernel_rfl
theorem B3p (l:List UInt64) (h:l.length=4) (w:World):(Instr.build 216 #[(0,F8 l)]).run Tryz.prog w=.ok (F8 l) w:=by
 have hz:(F8 (J7 4)).cells.toList=E4 (J7 4):=rfl;have h1:=I3 Cb B8m w (C3g w) #[(0,F8 l)] [(0,E4 l)] (by
  rw[hz];exact ⟨by simp[h],rfl,by simp[h],trivial⟩)
 refine h1.trans (congrArg (fun (cs:List Value)=>Result.ok (Value.agg cs.toArray) w) ?_);rw[hz];simp[Bg,N9,h,List.drop_eq_nil_of_le,E4]
@[go_sem ↓ high] theorem F0t (w : World) (ρ : Operand → Value) (dst : Option Tmp) (ty : TypeId) (pos : String) (after : Array Edge) (guard : Option (Nat × Bool)) (x : Operand) :
 (execOp ρ { dst,op:=.build 216 #[(0,x)],type:=ty,pos,after,guard }).run Tryz.prog w=Vp 4 w (F2 Tryz.prog ρ { dst,op:=.build 216 #[(0,x)],type:=ty,pos,after,guard } w) (ρ x):=by
 generalize hx:ρ x=a;unfold Vp;split
 ·rename_i l hl
  replace hl:=Fa hl;split
  ·rename_i h
   refine E9 w ρ dst ty pos after guard _ _ _ ?_;simp only[List.map_toArray,List.map_cons,List.map_nil,hx,hl];exact B3p l h w
  ·rfl
 ·rfl
theorem A6p (x0 x1 x2 x3 x4:UInt64) (w:World):(Instr.build 156 #[(0,.int .u64 (C8 x0)),(1,.int .u64 (C8 x1)),(2,.int .u64 (C8 x2)),(3,.int .u64 (C8 x3)),(4,.int .u64 (C8 x4))]).run Tryz.prog w=.ok (F8 [x0,x1,x2,x3,x4]) w:=by kernel_rfl
noncomputable def B2u (w:World) (raw:Result Next) (v0 v1 v2 v3 v4:Value):Result Next:=match Y8 v0,Y8 v1,Y8 v2,Y8 v3,Y8 v4 with
 | some x0,some x1,some x2,some x3,some x4=>.ok (.value (F8 [x0,x1,x2,x3,x4])) w
 | _,_,_,_,_=>raw
@[go_sem ↓ high] theorem E3h (w : World) (ρ : Operand → Value) (dst : Option Tmp) (ty : TypeId) (pos : String) (after : Array Edge) (guard : Option (Nat × Bool)) (x0 x1 x2 x3 x4 : Operand) :
 (execOp ρ { dst,op:=.build 156 #[(0,x0),(1,x1),(2,x2),(3,x3),(4,x4)],type:=ty,pos,after,guard }).run Tryz.prog w=B2u w (F2 Tryz.prog ρ { dst,op:=.build 156 #[(0,x0),(1,x1),(2,x2),(3,x3),(4,x4)],type:=ty,pos,after,guard } w) (ρ x0) (ρ x1) (ρ x2) (ρ x3) (ρ x4):=by
 generalize h0:ρ x0=v0;generalize h1:ρ x1=v1;generalize h2:ρ x2=v2;generalize h3:ρ x3=v3;generalize h4:ρ x4=v4;unfold B2u;split
 ·rename_i y0 y1 y2 y3 y4 g0 g1 g2 g3 g4
  refine E9 w ρ dst ty pos after guard _ _ _ ?_;simp only[List.map_toArray,List.map_cons,List.map_nil,h0,X9 g0,h1,X9 g1,h2,X9 g2,h3,X9 g3,h4,X9 g4];exact A6p y0 y1 y2 y3 y4 w
 ·rfl
theorem A8n (x0 x1 x2 x3:UInt64) (w:World):(Instr.build 214 #[(0,.int .u64 (C8 x0)),(1,.int .u64 (C8 x1)),(2,.int .u64 (C8 x2)),(3,.int .u64 (C8 x3))]).run Tryz.prog w=.ok (F8 [x0,x1,x2,x3]) w:=by kernel_rfl
noncomputable def Um (w:World) (raw:Result Next) (v0 v1 v2 v3:Value):Result Next:=match Y8 v0,Y8 v1,Y8 v2,Y8 v3 with
 | some x0,some x1,some x2,some x3=>.ok (.value (F8 [x0,x1,x2,x3])) w
 | _,_,_,_=>raw
@[go_sem ↓ high] theorem E4q (w : World) (ρ : Operand → Value) (dst : Option Tmp) (ty : TypeId) (pos : String) (after : Array Edge) (guard : Option (Nat × Bool)) (x0 x1 x2 x3 : Operand) :
 (execOp ρ { dst,op:=.build 214 #[(0,x0),(1,x1),(2,x2),(3,x3)],type:=ty,pos,after,guard }).run Tryz.prog w=Um w (F2 Tryz.prog ρ { dst,op:=.build 214 #[(0,x0),(1,x1),(2,x2),(3,x3)],type:=ty,pos,after,guard } w) (ρ x0) (ρ x1) (ρ x2) (ρ x3):=by
 generalize h0:ρ x0=v0;generalize h1:ρ x1=v1;generalize h2:ρ x2=v2;generalize h3:ρ x3=v3;unfold Um;split
 ·rename_i y0 y1 y2 y3 g0 g1 g2 g3
  refine E9 w ρ dst ty pos after guard _ _ _ ?_;simp only[List.map_toArray,List.map_cons,List.map_nil,h0,X9 g0,h1,X9 g1,h2,X9 g2,h3,X9 g3];exact A8n y0 y1 y2 y3 w
 ·rfl
theorem A6d (x0 x1:UInt64) (w:World):(Instr.build 275 #[(0,.int .u64 (C8 x0)),(1,.int .u64 (C8 x1))]).run Tryz.prog w=.ok (F8 [x0,x1]) w:=by kernel_rfl
noncomputable def Sd (w:World) (raw:Result Next) (v0 v1:Value):Result Next:=match Y8 v0,Y8 v1 with
 | some x0,some x1=>.ok (.value (F8 [x0,x1])) w
 | _,_=>raw
@[go_sem] theorem D7s (w : World) (raw : Result Next) (x0 x1 : UInt64) : Sd w raw (.int .u64 (C8 x0)) (.int .u64 (C8 x1)) = .ok (.value (F8 [x0, x1])) w := by
 unfold Sd;simp only[Js]
@[go_sem ↓ high] theorem E4j (w : World) (ρ : Operand → Value) (dst : Option Tmp) (ty : TypeId) (pos : String) (after : Array Edge) (guard : Option (Nat × Bool)) (x0 x1 : Operand) :
 (execOp ρ { dst,op:=.build 275 #[(0,x0),(1,x1)],type:=ty,pos,after,guard }).run Tryz.prog w=Sd w (F2 Tryz.prog ρ { dst,op:=.build 275 #[(0,x0),(1,x1)],type:=ty,pos,after,guard } w) (ρ x0) (ρ x1):=by
 generalize h0:ρ x0=v0;generalize h1:ρ x1=v1;unfold Sd;split
 ·rename_i y0 y1 g0 g1
  refine E9 w ρ dst ty pos after guard _ _ _ ?_;simp only[List.map_toArray,List.map_cons,List.map_nil,h0,X9 g0,h1,X9 g1];exact A6d y0 y1 w
 ·rfl
theorem B4b (x0 x1:UInt64) (w:World):(Instr.build 156 #[(0,.int .u64 (C8 x0)),(1,.int .u64 (C8 x1))]).run Tryz.prog w=.ok (F8 [x0,x1,0,0,0]) w:=by kernel_rfl
noncomputable def A6v (w:World) (raw:Result Next) (v0 v1:Value):Result Next:=match Y8 v0,Y8 v1 with
 | some x0,some x1=>.ok (.value (F8 [x0,x1,0,0,0])) w
 | _,_=>raw
@[go_sem] theorem E4g (w : World) (raw : Result Next) (x0 x1 : UInt64) : A6v w raw (.int .u64 (C8 x0)) (.int .u64 (C8 x1)) = .ok (.value (F8 [x0, x1, 0, 0, 0])) w := by
 unfold A6v;simp only[Js]
@[go_sem ↓ high] theorem F5e (w : World) (ρ : Operand → Value) (dst : Option Tmp) (ty : TypeId) (pos : String) (after : Array Edge) (guard : Option (Nat × Bool)) (x0 x1 : Operand) :
 (execOp ρ { dst,op:=.build 156 #[(0,x0),(1,x1)],type:=ty,pos,after,guard }).run Tryz.prog w=A6v w (F2 Tryz.prog ρ { dst,op:=.build 156 #[(0,x0),(1,x1)],type:=ty,pos,after,guard } w) (ρ x0) (ρ x1):=by
 generalize h0:ρ x0=v0;generalize h1:ρ x1=v1;unfold A6v;split
 ·rename_i y0 y1 g0 g1
  refine E9 w ρ dst ty pos after guard _ _ _ ?_;simp only[List.map_toArray,List.map_cons,List.map_nil,h0,h1,X9 g0,X9 g1];exact B4b y0 y1 w
 ·rfl
def ptl (x y z t:List UInt64):List UInt64:=x++(y++(z++t))
theorem B5e {x y z t:List UInt64} (hx:x.length=5) (hy:y.length=5) (hz:z.length=5) (ht:t.length=5):(ptl x y z t).length=20:=by simp[ptl,hx,hy,hz,ht]
noncomputable def E5j (w:World) (raw:Result Next) (a b c d:Value):Result Next:=match Zv a,Zv b,Zv c,Zv d with
 | some x,some y,some z,some t=>if x.length=5∧y.length=5∧z.length=5∧t.length=5 then .ok (.value (F8 (ptl x y z t))) w else raw
 | _,_,_,_=>raw
theorem C3u (w:World):(Z3 (I2 Tryz.prog 160)).run Tryz.prog w=.ok #[(0,5),(5,5),(10,5),(15,5)] w:=by kernel_rfl
theorem E2b (x y z t:List UInt64) (hx:x.length=5) (hy:y.length=5) (hz:z.length=5) (ht:t.length=5) (w:World):(Instr.build 160 #[(0,F8 x),(1,F8 y),(2,F8 z),(3,F8 t)]).run Tryz.prog w=.ok (F8 (ptl x y z t)) w:=by
 have aA:(F8 (J7 20)).cells.toList=E4 (J7 20):=rfl;have h1:=I3 Pm C0n w (C3u w) #[(0,F8 x),(1,F8 y),(2,F8 z),(3,F8 t)] [(0,E4 x),(5,E4 y),(10,E4 z),(15,E4 t)] (by
  rw[aA];exact ⟨by simp[hx],rfl,by simp[hx],by simp[hy],rfl,by simp[hy],by simp[hz],rfl,by simp[hz],by simp[ht],rfl,by simp[ht],trivial⟩)
 refine h1.trans (congrArg (fun (cs:List Value)=>Result.ok (Value.agg cs.toArray) w) ?_);rw[aA];simp[Bg,N9,hx,hy,hz,ht,List.take_append,List.drop_append,List.drop_eq_nil_of_le,List.take_of_length_le,ptl,E4]
@[go_sem ↓ high] theorem E8y (w : World) (ρ : Operand → Value) (dst : Option Tmp) (ty : TypeId) (pos : String) (after : Array Edge) (guard : Option (Nat × Bool)) (x y z t : Operand) :
 (execOp ρ { dst,op:=.build 160 #[(0,x),(1,y),(2,z),(3,t)],type:=ty,pos,after,guard }).run Tryz.prog w=E5j w (F2 Tryz.prog ρ { dst,op:=.build 160 #[(0,x),(1,y),(2,z),(3,t)],type:=ty,pos,after,guard } w) (ρ x) (ρ y) (ρ z) (ρ t):=by
 generalize h0:ρ x=a;generalize h1:ρ y=b;generalize h2:ρ z=c;generalize h3:ρ t=d;unfold E5j;split
 ·rename_i x' y' z' t' g0 g1 g2 g3
  replace g0:=Fa g0;replace g1:=Fa g1;replace g2:=Fa g2;replace g3:=Fa g3;split
  ·rename_i h
   refine E9 w ρ dst ty pos after guard _ _ _ ?_;simp only[List.map_toArray,List.map_cons,List.map_nil,h0,h1,h2,h3,g0,g1,g2,g3];exact E2b x' y' z' t' h.1 h.2.1 h.2.2.1 h.2.2.2 w
  ·rfl
 ·rfl
theorem Bk.row64 {w:World} {g:Nat} {t:TypeId} {l:List UInt64} {n:Nat} (h:Bk w g t (E4 l)) (hl:l.length=n):D9 w ⟨g,0,none⟩ n=some (E4 l):=by have:=h.rows;rwa [Ln,hl]at this
def Uu (x y c:UInt64):UInt64:=x+y+c
def Xn (x y c:UInt64):UInt64:=UInt64.ofNat ((x.toNat+y.toNat+c.toNat) / 18446744073709551616)
def C2l (x y b:UInt64):UInt64:=x-y-b
def C2h (x y b:UInt64):UInt64:=if x.toNat<y.toNat+b.toNat then 1 else 0
theorem B2v (x y c:UInt64) (hc:c.toNat≤1) (w:World):(callFunc 179 #[.int .u64 (C8 x),.int .u64 (C8 y),.int .u64 (C8 c)]).run Tryz.prog w=.ok (.value (.tuple #[.int .u64 (C8 (Uu x y c)),.int .u64 (C8 (Xn x y c))])) w:=by
 have hx:=Hi x;have hy:=Hi y;rw[run_callFunc_extern (fn:=Tryz.f179) Tryz.func179 (by kernel_rfl) (by kernel_rfl) (by kernel_rfl) (e:=add64Entry) (by kernel_rfl)];unfold C8;rw[run_add64 _ _ _ (by omega) (by omega) (by omega) (by omega)];have e1:(Uu x y c).toNat=(x.toNat+y.toNat+c.toNat) % 18446744073709551616:=by unfold Uu;rw[UInt64.toNat_add,UInt64.toNat_add];omega
 have e2:(Xn x y c).toNat=(x.toNat+y.toNat+c.toNat) / 18446744073709551616:=by unfold Xn;rw[UInt64.toNat_ofNat'];omega
 simp only[Result.andThen_ok];rw[e1,e2];congr 6<;>omega
theorem B4s (x y b:Nat) (hb:b≤1) (e:Array Value→Sem Value) (he:e=fun args=>do
 let (x, y, b) ← Extern.MathBitsCarry.three "Sub64" args
 pure (Extern.MathBitsCarry.pair ((x+Extern.MathBitsCarry.m64-y-b) % Extern.MathBitsCarry.m64) (if x<y+b then 1 else 0))) (w:World) :
 (e #[.int .u64 x,.int .u64 y,.int .u64 b]).run Tryz.prog w =
  .ok (.tuple #[.int .u64 (((x+18446744073709551616-y-b) % 18446744073709551616:Nat):Int),.int .u64 ((if x<y+b then 1 else 0:Nat):Int)]) w:=by
 subst he;have:b=0∨b=1:=by omega
 rcases this with rfl | rfl<;>rfl
theorem C9w (x y c:UInt64) (hc:c.toNat≤1) (w:World):(callFunc 209 #[.int .u64 (C8 x),.int .u64 (C8 y),.int .u64 (C8 c)]).run Tryz.prog w=.ok (.value (.tuple #[.int .u64 (C8 (C2l x y c)),.int .u64 (C8 (C2h x y c))])) w:=by
 have hx:=Hi x;have hy:=Hi y;rw[run_callFunc_extern (fn:=Tryz.f209) Tryz.func209 (by kernel_rfl) (by kernel_rfl) (by kernel_rfl) (e:=fun args=>do
  let (x, y, b) ← Extern.MathBitsCarry.three "Sub64" args
  pure (Extern.MathBitsCarry.pair ((x+Extern.MathBitsCarry.m64-y-b) % Extern.MathBitsCarry.m64) (if x<y+b then 1 else 0))) (by kernel_rfl)]
 unfold C8;rw[B4s _ _ _ hc _ rfl];have e1:(C2l x y c).toNat=(x.toNat+18446744073709551616-y.toNat-c.toNat) % 18446744073709551616:=by
  unfold C2l;rw[UInt64.toNat_sub,UInt64.toNat_sub];omega
 have e2:(C2h x y c).toNat=(if x.toNat<y.toNat+c.toNat then 1 else 0):=by unfold C2h;split<;>rfl
 simp only[Result.andThen_ok];rw[e1,e2]
attribute [go_sem] B2v C9w
@[go_sem] theorem E3g (x y : UInt64) (w : World) : (callFunc 179 #[.int .u64 (C8 x), .int .u64 (C8 y), .int .u64 0]).run Tryz.prog w = .ok (.value (.tuple #[.int .u64 (C8 (Uu x y 0)), .int .u64 (C8 (Xn x y 0))])) w := B2v x y 0 (by decide) w
@[go_sem] theorem C0k (x y c : UInt64) (hc : c.toNat ≤ 1) : (Xn x y c).toNat ≤ 1 := by
 have hx:=Hi x;have hy:=Hi y;unfold Xn;rw[UInt64.toNat_ofNat'];omega
@[go_sem] theorem E6q (x y : UInt64) : (Xn x y 0).toNat ≤ 1 := C0k x y 0 (by decide)
@[go_sem] theorem D5i (x y c : UInt64) : (C2h x y c).toNat ≤ 1 := by
 unfold C2h;split<;>decide
def B2d (x y:UInt64):UInt64:=UInt64.ofNat (x.toNat*y.toNat / 18446744073709551616)
end
def D1p (x y:UInt64):UInt64:=
 let x0:=x &&& 4294967295
 let x1:=x >>> 32
 let y0:=y &&& 4294967295
 let y1:=y >>> 32
 let w0:=x0*y0
 let t:=x1*y0+w0 >>> 32
 let w1:=(t &&& 4294967295)+x0*y1
 x1*y1+t >>> 32+w1 >>> 32
theorem D0d (a b c d:Nat) (ha:a<4294967296) (hb:b<4294967296) (hc:c<4294967296) (hd:d<4294967296) :
 b*d+(b*c+a*c / 4294967296) / 4294967296+((b*c+a*c / 4294967296) % 4294967296+a*d) / 4294967296=(a+4294967296*b)*(c+4294967296*d) / 18446744073709551616:=by
 have e:(a+4294967296*b)*(c+4294967296*d)=a*c+4294967296*(b*c)+4294967296*(a*d)+18446744073709551616*(b*d):=by
  simp only[Nat.add_mul,Nat.mul_add];have e1:a*(4294967296*d)=4294967296*(a*d):=by rw[Nat.mul_left_comm]
  have e2:4294967296*b*c=4294967296*(b*c):=Nat.mul_assoc _ _ _;have e3:4294967296*b*(4294967296*d)=18446744073709551616*(b*d):=by rw[Nat.mul_assoc,Nat.mul_left_comm b];rw[←Nat.mul_assoc]
  rw[e1,e2,e3];omega
 rw[e];generalize a*c=p;generalize b*c=q;generalize a*d=r;generalize b*d=s;omega
theorem C3q (x y:UInt64):D1p x y=B2d x y:=by
 apply UInt64.toNat_inj.1;have hx:=Hi x;have hy:=Hi y;have aC:x.toNat % 4294967296<4294967296:=Nat.mod_lt _ (by decide);have aD:x.toNat / 4294967296<4294967296:=by omega
 have aE:y.toNat % 4294967296<4294967296:=Nat.mod_lt _ (by decide);have aF:y.toNat / 4294967296<4294967296:=by omega
 have aA:=D0d _ _ _ _ aC aD aE aF;have ex:x.toNat % 4294967296+4294967296*(x.toNat / 4294967296)=x.toNat:=by omega
 have ey:y.toNat % 4294967296+4294967296*(y.toNat / 4294967296)=y.toNat:=by omega
 rw[ex,ey]at aA;have b1:(x.toNat / 4294967296)*(y.toNat % 4294967296)≤4294967295*4294967295:=Nat.mul_le_mul (by omega) (by omega);have b2:(x.toNat % 4294967296)*(y.toNat % 4294967296)≤4294967295*4294967295:=Nat.mul_le_mul (by omega) (by omega);have b3:(x.toNat % 4294967296)*(y.toNat / 4294967296)≤4294967295*4294967295:=Nat.mul_le_mul (by omega) (by omega);have b4:(x.toNat / 4294967296)*(y.toNat / 4294967296)≤4294967295*4294967295:=Nat.mul_le_mul (by omega) (by omega);have m32:∀z:UInt64,(z &&& 4294967295).toNat=z.toNat % 4294967296:=fun z=>by
  rw[UInt64.toNat_and];exact Nat.and_two_pow_sub_one_eq_mod z.toNat 32
 have aB:∀z:UInt64,(z >>> 32).toNat=z.toNat / 4294967296:=fun z=>by
  rw[UInt64.toNat_shiftRight];exact Nat.shiftRight_eq_div_pow z.toNat 32
 unfold D1p B2d;simp only[UInt64.toNat_add,UInt64.toNat_mul,m32,aB,UInt64.toNat_ofNat'];have hk:x.toNat*y.toNat / 18446744073709551616<18446744073709551616:=by
  have:x.toNat*y.toNat<18446744073709551616*18446744073709551616:=Nat.mul_lt_mul'' hx hy;omega
 rw[←aA]at hk ⊢;generalize (x.toNat / 4294967296)*(y.toNat % 4294967296)=q at *;generalize (x.toNat % 4294967296)*(y.toNat % 4294967296)=p at *;generalize (x.toNat % 4294967296)*(y.toNat / 4294967296)=r at *;generalize (x.toNat / 4294967296)*(y.toNat / 4294967296)=s at *;clear aA ex ey m32 aB;omega
theorem Vt (x y:UInt64) (w:World):Calls Tryz.prog 181 #[.int .u64 (C8 x),.int .u64 (C8 y)] w fun e w'=>e=.returned (.tuple #[.int .u64 (C8 (B2d x y)),.int .u64 (C8 (x*y))])∧w'=w:=by
 rw[←C3q];go_enter Tryz.func181,Tryz.ntmps181;go_wp2;go_ret2
 exact ⟨rfl,rfl⟩
def Lx (x y:UInt64):List UInt64:=[B2d x y,x*y]
@[simp, go_sem] theorem D7u (x y : UInt64) : (Lx x y).length = 2 := rfl
def T4 (p:List UInt64) (x y:UInt64):List UInt64:=[Uu (B2d x y) (E8 p 0) (Xn (x*y) (E8 p 1) 0),Uu (x*y) (E8 p 1) 0]
@[simp, go_sem] theorem D4t (p : List UInt64) (x y : UInt64) : (T4 p x y).length = 2 := rfl
def over (p:List UInt64):UInt64:=E8 p 0 <<< 13 ||| E8 p 1 >>> (51:UInt64)
def Ez (a:List UInt64):List UInt64:=[(E8 a 0 &&& (2251799813685247:UInt64))+19*(E8 a 4 >>> (51:UInt64)),(E8 a 1 &&& (2251799813685247:UInt64))+E8 a 0 >>> (51:UInt64),(E8 a 2 &&& (2251799813685247:UInt64))+E8 a 1 >>> (51:UInt64),(E8 a 3 &&& (2251799813685247:UInt64))+E8 a 2 >>> (51:UInt64),(E8 a 4 &&& (2251799813685247:UInt64))+E8 a 3 >>> (51:UInt64)]
@[simp, go_sem] theorem C6m (a : List UInt64) : (Ez a).length = 5 := rfl
def D5v (t0 t1 t2 t3 t4:List UInt64):List UInt64:=[(E8 t0 1 &&& (2251799813685247:UInt64))+19*over t4,(E8 t1 1 &&& (2251799813685247:UInt64))+over t0,(E8 t2 1 &&& (2251799813685247:UInt64))+over t1,(E8 t3 1 &&& (2251799813685247:UInt64))+over t2,(E8 t4 1 &&& (2251799813685247:UInt64))+over t3]
@[simp, go_sem] theorem D8z (t0 t1 t2 t3 t4 : List UInt64) : (D5v t0 t1 t2 t3 t4).length = 5 := rfl
def Jr (t0 t1 t2 t3 t4:List UInt64):List UInt64:=Ez (D5v t0 t1 t2 t3 t4)
@[simp, go_sem] theorem C4z (t0 t1 t2 t3 t4 : List UInt64) : (Jr t0 t1 t2 t3 t4).length = 5 := rfl
theorem B2x (x y:UInt64) (w:World):Calls Tryz.prog 173 #[.int .u64 (C8 x),.int .u64 (C8 y)] w fun e w'=>e=.returned (F8 (Lx x y))∧Below w.heap.size w w':=by
 obtain⟨W0,aA⟩:∃z,z=w.alloc (Obj.cells (E4 (J7 2)).toArray 275):=⟨_,rfl⟩;have B0:Below w.heap.size w W0:=by rw[aA];exact (Below.refl _ _).alloc (Nat.le_refl _) _
 have R0:Bk W0 w.heap.size 275 (E4 (J7 2)):=by rw[aA];exact Bk.new w _ _
 have aB:E7 W0 ⟨w.heap.size,0,none⟩ 2=true:=R0.can (by simp);go_enter Tryz.func173,Tryz.ntmps173;go_wp2_with fail;rw[←aA];clear aA;refine (Vt x y W0).mono ?_;rintro e w1 ⟨rfl,rfl⟩;go_wp2_with fail;refine bodyPost_ret (C7 rfl _ _ _ _ _ _ rfl (R0.puts (vs:=E4 (Lx x y)) (by simp)) Vf rfl (by simp[Xv])) rfl ⟨rfl,C0 B0 (Nat.le_refl _) _⟩
theorem D2e (p:List UInt64) (hp:p.length=2) (x y:UInt64) (w:World):Calls Tryz.prog 174 #[F8 p,.int .u64 (C8 x),.int .u64 (C8 y)] w fun e w'=>e=.returned (F8 (T4 p x y))∧Below w.heap.size w w':=by
 obtain⟨W0,aA⟩:∃z,z=(w.alloc (Obj.cells (E4 p).toArray 275)).alloc (Obj.cells (E4 (J7 2)).toArray 275):=⟨_,rfl⟩;have B0:Below w.heap.size w W0:=by rw[aA];exact ((Below.refl _ _).alloc (Nat.le_refl _) _).alloc (by simp) _
 have P0:Bk W0 w.heap.size 275 (E4 p):=by rw[aA];exact (Bk.new w _ _).alloc _
 have R0:Bk W0 (w.heap.size+1) 275 (E4 (J7 2)):=by rw[aA];simpa using Bk.new (w.alloc (Obj.cells (E4 p).toArray 275)) 275 (E4 (J7 2))
 have aB:E7 W0 ⟨w.heap.size+1,0,none⟩ 2=true:=R0.can (by simp);have p0:=P0.at_ (P4 (l:=p) (i:=0) (by omega));have p1:=P0.at_ (P4 (l:=p) (i:=1) (by omega));go_enter Tryz.func174,Tryz.ntmps174;go_wp2_with fail;rw[←aA];clear aA;refine (Vt x y W0).mono ?_;rintro e w1 ⟨rfl,rfl⟩;go_wp2_with fail;refine bodyPost_ret (C7 rfl _ _ _ _ _ _ rfl (R0.puts (vs:=E4 (T4 p x y)) (by simp)) Vf rfl (by simp[Xv])) rfl ⟨rfl,C0 B0 (by simp) _⟩
theorem C7d (p:List UInt64) (hp:p.length=2) (w:World):Calls Tryz.prog 202 #[F8 p] w fun e w'=>e=.returned (.int .u64 (C8 (over p)))∧Below w.heap.size w w':=by
 obtain⟨W0,aA⟩:∃z,z=w.alloc (Obj.cells (E4 p).toArray 275):=⟨_,rfl⟩;have B0:Below w.heap.size w W0:=by rw[aA];exact (Below.refl _ _).alloc (Nat.le_refl _) _
 have P0:Bk W0 w.heap.size 275 (E4 p):=by rw[aA];exact Bk.new w _ _
 have p0:=P0.at_ (P4 (l:=p) (i:=0) (by omega));have p1:=P0.at_ (P4 (l:=p) (i:=1) (by omega));rw[aA]at p0 p1;go_enter Tryz.func202,Tryz.ntmps202;go_wp2_with fail;rw[←aA];clear aA;go_ret;exact ⟨rfl,B0⟩
end Go.Proofs.YtdfpoofbgjilgaaGreat
