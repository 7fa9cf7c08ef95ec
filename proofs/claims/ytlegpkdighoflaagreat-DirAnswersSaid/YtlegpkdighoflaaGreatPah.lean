/- A part of the proof of DirAnswers. -/
import Derived.Laws.Externs
import Derived.Test.YtlegpkdighoflaaGreatPag
set_option linter.unusedVariables false
set_option linter.unusedSimpArgs false
set_option maxRecDepth 100000
set_option maxHeartbeats 40000000
namespace Go.Proofs.YtlegpkdighoflaaGreat
open Go Go.RowKit Sh
abbrev RL' (t n : TypeId) : Prop := ∀ (w : World) (ρ : Operand → Value) (dst : Option Tmp) (ty : TypeId) (pos : String) (after : Array Edge) (guard : Option (Nat × Bool)) (x : Operand),
    (execOp ρ { dst, op := .load t x, type := ty, pos, after, guard }).run Tryz.prog w = Nd n w (Q0 Tryz.prog ρ { dst, op := .load t x, type := ty, pos, after, guard } w) (ρ x)
theorem LL' {t n : TypeId} {d : TypeDesc} (hu : Tryz.prog.underlying t = some d) (hi : (Tryz.prog.info? t).map (·.size) = some n) (hn : 0 < n := by decide) (hd : d.isRow = true := by rfl) : RL' t n :=
  fun w ρ dst ty pos after guard x => Jg w ρ dst ty pos after guard t n d x hn hu hd hi
abbrev RS' (t n : TypeId) : Prop := ∀ (w : World) (ρ : Operand → Value) (dst : Option Tmp) (ty : TypeId) (pos : String) (after : Array Edge) (guard : Option (Nat × Bool)) (x y : Operand),
    (execOp ρ { dst, op := .store t x y, type := ty, pos, after, guard }).run Tryz.prog w = Cu n w (Q0 Tryz.prog ρ { dst, op := .store t x y, type := ty, pos, after, guard } w) (ρ x) (ρ y)
theorem SS' {t n : TypeId} (hi : (Tryz.prog.info? t).map (·.size) = some n) (hn : 0 < n := by decide) : RS' t n :=
  fun w ρ dst ty pos after guard x y => Ht w ρ dst ty pos after guard t n x y hn hi
abbrev RA' (t : TypeId) (c : Array Value) : Prop := ∀ (w : World) (ρ : Operand → Value) (dst : Option Tmp) (ty : TypeId) (pos : String) (after : Array Edge) (guard : Option (Nat × Bool)),
    (execOp ρ { dst, op := .alloc t, type := ty, pos, after, guard }).run Tryz.prog w = .ok (.value (.pointer (some ⟨w.heap.size, 0, none⟩))) (w.alloc (.cells c t))
abbrev RB' (t : TypeId) : Prop := ∀ (w : World) (ρ : Operand → Value) (dst : Option Tmp) (ty : TypeId) (pos : String) (after : Array Edge) (guard : Option (Nat × Bool)) (x : Operand),
    (execOp ρ { dst, op := .box t x, type := ty, pos, after, guard }).run Tryz.prog w = Vi t w (Q0 Tryz.prog ρ { dst, op := .box t x, type := ty, pos, after, guard } w) (ρ x)
theorem BX' (t : TypeId) : RB' t := fun w ρ dst ty pos after guard x => A2e w ρ dst ty pos after guard t x
section
theorem C0s (x y:UInt64):Op.intArith .sub .u64 (J4 x) (J4 y)=pure (.int .u64 (J4 (x-y))):=by
 unfold Op.intArith J4;have hx:=Lz x;have hy:=Lz y;have e:IntKind.u64.wrap ((x.toNat:Int)-(y.toNat:Int))=(((18446744073709551616-y.toNat+x.toNat) % 18446744073709551616:Nat):Int):=by
  simp only[IntKind.wrap,IntKind.bits,IntKind.signed,Bool.false_and,Bool.false_eq_true,if_false];omega
 rw[e,UInt64.toNat_sub]
attribute [go_sem ↓ high] C0s
noncomputable def Yy (v:Value):Option (List UInt64):=open Classical in if h:∃l,v=H9 l then some h.choose else none
theorem B1s {x y:UInt64} (h:Vz x=Vz y):x=y:=by
 unfold Vz at h;injection h with _ h;exact A7g h
theorem C8x {xs ys:List UInt64} (h:H9 xs=H9 ys):xs=ys:=by
 unfold H9 C9 at h;injection h with h;have h':(xs.map Vz)=(ys.map Vz):=by simpa using congrArg Array.toList h
 exact (List.map_inj_right fun _ _=>B1s).1 h'
theorem Rn (l:List UInt64):Yy (H9 l)=some l:=by
 have h:∃m,H9 l=H9 m:=⟨l,rfl⟩;unfold Yy;rw[dif_pos h];exact congrArg some (C8x h.choose_spec).symm
theorem Jc {v:Value} {l:List UInt64} (h:Yy v=some l):v=H9 l:=by
 unfold Yy at h;split at h
 ·rename_i hh
  injection h with h;rw[←h];exact hh.choose_spec
 ·cases h
@[go_sem] theorem D7h (t : TypeId) (w : World) (raw : Result Next) (l : List UInt64) : Vi t w raw (H9 l) = .ok (.value (.pointer (some ⟨w.heap.size, 0, none⟩))) (w.alloc (.cells (C9 l).toArray t)) := rfl
noncomputable def Ww (n:Nat) (w:World) (raw:Result Next) (v:Value):Result Next:=match Yy v with
 | some l=>if l.length=n then .ok (.value (H9 l)) w else raw
 | none=>raw
@[go_sem] theorem D6m (n : Nat) (w : World) (raw : Result Next) (l : List UInt64) (h : l.length = n) : Ww n w raw (H9 l) = .ok (.value (H9 l)) w := by
 unfold Ww;rw[Rn];simp[h]
noncomputable def Cg (v:Value):Option UInt64:=open Classical in if h:∃x,v=Vz x then some h.choose else none
theorem Fe (x:UInt64):Cg (.int .u64 (J4 x))=some x:=by
 have h:∃y,Vz x=Vz y:=⟨x,rfl⟩;show Cg (Vz x)=_;unfold Cg;rw[dif_pos h];exact congrArg some (B1s h.choose_spec).symm
theorem Dy {v:Value} {x:UInt64} (h:Cg v=some x):v=.int .u64 (J4 x):=by
 unfold Cg at h;split at h
 ·rename_i hh
  injection h with h;rw[←h];exact hh.choose_spec
 ·cases h
@[go_sem ↓ high] theorem E6h (x : UInt64) (k : IntKind) : Op.shift .shr .u64 (J4 x) k 4 = pure (.int .u64 (J4 (x >>> 4))) := Di x k 4 (by decide)
@[go_sem ↓ high] theorem E5i (x : UInt64) (k : IntKind) : Op.shift .shl .u64 (J4 x) k 4 = pure (.int .u64 (J4 (x <<< 4))) := Dd x k 4 (by decide)
@[go_sem ↓ high] theorem E7c (x : UInt64) (k : IntKind) : Op.shift .shr .u64 (J4 x) k 5 = pure (.int .u64 (J4 (x >>> 5))) := Di x k 5 (by decide)
@[go_sem ↓ high] theorem E5c (x : UInt64) (k : IntKind) : Op.shift .shl .u64 (J4 x) k 5 = pure (.int .u64 (J4 (x <<< 5))) := Dd x k 5 (by decide)
@[go_sem ↓ high] theorem D9v (x : UInt64) (k : IntKind) : Op.shift .shr .u64 (J4 x) k 12 = pure (.int .u64 (J4 (x >>> 12))) := Di x k 12 (by decide)
@[go_sem ↓ high] theorem E1s (x : UInt64) (k : IntKind) : Op.shift .shl .u64 (J4 x) k 12 = pure (.int .u64 (J4 (x <<< 12))) := Dd x k 12 (by decide)
@[go_sem ↓ high] theorem D8m (x : UInt64) (k : IntKind) : Op.shift .shr .u64 (J4 x) k 13 = pure (.int .u64 (J4 (x >>> 13))) := Di x k 13 (by decide)
@[go_sem ↓ high] theorem E0g (x : UInt64) (k : IntKind) : Op.shift .shl .u64 (J4 x) k 13 = pure (.int .u64 (J4 (x <<< 13))) := Dd x k 13 (by decide)
@[go_sem ↓ high] theorem E0r (x : UInt64) (k : IntKind) : Op.shift .shr .u64 (J4 x) k 25 = pure (.int .u64 (J4 (x >>> 25))) := Di x k 25 (by decide)
@[go_sem ↓ high] theorem E1d (x : UInt64) (k : IntKind) : Op.shift .shl .u64 (J4 x) k 25 = pure (.int .u64 (J4 (x <<< 25))) := Dd x k 25 (by decide)
@[go_sem ↓ high] theorem D9a (x : UInt64) (k : IntKind) : Op.shift .shr .u64 (J4 x) k 26 = pure (.int .u64 (J4 (x >>> 26))) := Di x k 26 (by decide)
@[go_sem ↓ high] theorem E2s (x : UInt64) (k : IntKind) : Op.shift .shl .u64 (J4 x) k 26 = pure (.int .u64 (J4 (x <<< 26))) := Dd x k 26 (by decide)
@[go_sem ↓ high] theorem E0o (x : UInt64) (k : IntKind) : Op.shift .shr .u64 (J4 x) k 38 = pure (.int .u64 (J4 (x >>> 38))) := Di x k 38 (by decide)
@[go_sem ↓ high] theorem E4m (x : UInt64) (k : IntKind) : Op.shift .shl .u64 (J4 x) k 38 = pure (.int .u64 (J4 (x <<< 38))) := Dd x k 38 (by decide)
@[go_sem ↓ high] theorem D8f (x : UInt64) (k : IntKind) : Op.shift .shr .u64 (J4 x) k 39 = pure (.int .u64 (J4 (x >>> 39))) := Di x k 39 (by decide)
@[go_sem ↓ high] theorem D9n (x : UInt64) (k : IntKind) : Op.shift .shl .u64 (J4 x) k 39 = pure (.int .u64 (J4 (x <<< 39))) := Dd x k 39 (by decide)
@[go_sem ↓ high] theorem E2d (x : UInt64) (k : IntKind) : Op.shift .shr .u64 (J4 x) k 51 = pure (.int .u64 (J4 (x >>> 51))) := Di x k 51 (by decide)
@[go_sem ↓ high] theorem D8j (x : UInt64) (k : IntKind) : Op.shift .shl .u64 (J4 x) k 51 = pure (.int .u64 (J4 (x <<< 51))) := Dd x k 51 (by decide)
@[go_sem ↓ high] theorem E3i (x : UInt64) (k : IntKind) : Op.shift .shr .u64 (J4 x) k 60 = pure (.int .u64 (J4 (x >>> 60))) := Di x k 60 (by decide)
@[go_sem ↓ high] theorem D9f (x : UInt64) (k : IntKind) : Op.shift .shl .u64 (J4 x) k 60 = pure (.int .u64 (J4 (x <<< 60))) := Dd x k 60 (by decide)
@[go_sem ↓ high] theorem E2j (x : UInt64) (k : IntKind) : Op.shift .shr .u64 (J4 x) k 63 = pure (.int .u64 (J4 (x >>> 63))) := Di x k 63 (by decide)
@[go_sem ↓ high] theorem E1z (x : UInt64) (k : IntKind) : Op.shift .shl .u64 (J4 x) k 63 = pure (.int .u64 (J4 (x <<< 63))) := Dd x k 63 (by decide)
@[go_sem ↓ high] theorem E7d (x : UInt64) : Op.intBits .and .u64 (J4 x) 1 = pure (.int .u64 (J4 (x &&& 1))) := B5h x 1
@[go_sem ↓ high] theorem D9e (x : UInt64) : Op.intBits .and .u64 (J4 x) 15 = pure (.int .u64 (J4 (x &&& 15))) := B5h x 15
@[go_sem ↓ high] theorem B7r (x : UInt64) : Op.intBits .and .u64 (J4 x) 4294967295 = pure (.int .u64 (J4 (x &&& 4294967295))) := B5h x 4294967295
@[go_sem ↓ high] theorem A6q (x : UInt64) : Op.intBits .and .u64 (J4 x) 2251799813685247 = pure (.int .u64 (J4 (x &&& 2251799813685247))) := B5h x 2251799813685247
@[go_sem ↓ high] theorem E8c (x : UInt8) : Op.intBits .and .u8 (n8 x) 1 = pure (.int .u8 (n8 (x &&& 1))) := C7d x 1
@[go_sem ↓ high] theorem E5j (x : UInt8) : Op.intBits .and .u8 (n8 x) 15 = pure (.int .u8 (n8 (x &&& 15))) := C7d x 15
@[go_sem ↓ high] theorem D8h (x : UInt8) : Op.intBits .and .u8 (n8 x) 127 = pure (.int .u8 (n8 (x &&& 127))) := C7d x 127
@[go_sem ↓ high] theorem E3c (x : UInt8) : Op.intBits .and .u8 (n8 x) 248 = pure (.int .u8 (n8 (x &&& 248))) := C7d x 248
@[go_sem ↓ high] theorem E8e (x : UInt8) : Op.intBits .or .u8 (n8 x) 64 = pure (.int .u8 (n8 (x ||| 64))) := or8 x 64
@[go_sem ↓ high] theorem E5k (x : UInt8) : Op.intBits .or .u8 (n8 x) 128 = pure (.int .u8 (n8 (x ||| 128))) := or8 x 128
@[go_sem ↓ high] theorem E6w (x : UInt64) : Op.intArith .mul .u64 2 (J4 x) = pure (.int .u64 (J4 (2 * x))) := A7z 2 x
@[go_sem ↓ high] theorem E0a (x : UInt64) : Op.intArith .mul .u64 19 (J4 x) = pure (.int .u64 (J4 (19 * x))) := A7z 19 x
@[go_sem ↓ high] theorem E1j (x : UInt64) : Op.intArith .add .u64 (J4 x) 19 = pure (.int .u64 (J4 (x + 19))) := add64 x 19
@[go_sem ↓ high] theorem D9h (x : UInt64) : Op.intArith .sub .u64 (J4 x) 72 = pure (.int .u64 (J4 (x - 72))) := C0s x 72
@[go_sem ↓ high] theorem E2b (x : UInt64) : Op.intArith .sub .u64 9007199254740988 (J4 x) = pure (.int .u64 (J4 (9007199254740988 - x))) := C0s 9007199254740988 x
theorem B5q:(Tryz.prog.info? 136).map (·.size)=some 5:=by kernel_rfl
theorem C9l:((Tryz.prog.info? 136).bind (·.zero))=some (H9 (J2 5)):=by kernel_rfl
section
variable (w : World) (ρ : Operand → Value) (dst : Option Tmp) (ty : TypeId) (pos : String) (after : Array Edge) (guard : Option (Nat × Bool))
@[go_sem ↓ high] theorem E5x:RL' 136 5:=LL' Tryz.underlying136 B5q
@[go_sem ↓ high] theorem D8b:RS' 136 5:=SS' B5q
@[go_sem ↓ high] theorem E4g:RA' 136 (C9 (J2 5)).toArray:=fun w ρ dst ty pos after guard=>U6 w ρ dst ty pos after guard 136 (H9 (J2 5)) C9l
@[go_sem ↓ high] theorem E8j:RB' 136:=BX' _
end
theorem Vj:(Tryz.prog.info? 182).map (·.size)=some 4:=by kernel_rfl
theorem C9i:((Tryz.prog.info? 182).bind (·.zero))=some (H9 (J2 4)):=by kernel_rfl
section
variable (w : World) (ρ : Operand → Value) (dst : Option Tmp) (ty : TypeId) (pos : String) (after : Array Edge) (guard : Option (Nat × Bool))
@[go_sem ↓ high] theorem E6g:RL' 182 4:=LL' Tryz.underlying182 Vj
@[go_sem ↓ high] theorem D8d:RS' 182 4:=SS' Vj
@[go_sem ↓ high] theorem E4d:RA' 182 (C9 (J2 4)).toArray:=fun w ρ dst ty pos after guard=>U6 w ρ dst ty pos after guard 182 (H9 (J2 4)) C9i
@[go_sem ↓ high] theorem E7z:RB' 182:=BX' _
end
theorem Z6:(Tryz.prog.info? 138).map (·.size)=some 5:=by kernel_rfl
theorem B5t:((Tryz.prog.info? 138).bind (·.zero))=some (H9 (J2 5)):=by kernel_rfl
theorem Q9:Tryz.prog.underlying 138=some (.struct (X6 Tryz.prog 138)):=by kernel_rfl
section
variable (w : World) (ρ : Operand → Value) (dst : Option Tmp) (ty : TypeId) (pos : String) (after : Array Edge) (guard : Option (Nat × Bool))
@[go_sem ↓ high] theorem E6m:RL' 138 5:=LL' Q9 Z6
@[go_sem ↓ high] theorem E0x:RS' 138 5:=SS' Z6
@[go_sem ↓ high] theorem Bg:RA' 138 (C9 (J2 5)).toArray:=fun w ρ dst ty pos after guard=>U6 w ρ dst ty pos after guard 138 (H9 (J2 5)) B5t
@[go_sem ↓ high] theorem E8d:RB' 138:=BX' _
end
theorem Zt:(Tryz.prog.info? 211).map (·.size)=some 2:=by kernel_rfl
theorem C7o:((Tryz.prog.info? 211).bind (·.zero))=some (H9 (J2 2)):=by kernel_rfl
theorem Ws:Tryz.prog.underlying 211=some (.struct (X6 Tryz.prog 211)):=by kernel_rfl
section
variable (w : World) (ρ : Operand → Value) (dst : Option Tmp) (ty : TypeId) (pos : String) (after : Array Edge) (guard : Option (Nat × Bool))
@[go_sem ↓ high] theorem E5q:RL' 211 2:=LL' Ws Zt
@[go_sem ↓ high] theorem E0e:RS' 211 2:=SS' Zt
@[go_sem ↓ high] theorem D9z:RA' 211 (C9 (J2 2)).toArray:=fun w ρ dst ty pos after guard=>U6 w ρ dst ty pos after guard 211 (H9 (J2 2)) C7o
@[go_sem ↓ high] theorem E9d:RB' 211:=BX' _
end
theorem Jp:(Tryz.prog.info? 184).map (·.size)=some 4:=by kernel_rfl
theorem B5m:((Tryz.prog.info? 184).bind (·.zero))=some (H9 (J2 4)):=by kernel_rfl
theorem Fw:Tryz.prog.underlying 184=some (.struct (X6 Tryz.prog 184)):=by kernel_rfl
section
variable (w : World) (ρ : Operand → Value) (dst : Option Tmp) (ty : TypeId) (pos : String) (after : Array Edge) (guard : Option (Nat × Bool))
@[go_sem ↓ high] theorem E6j:RL' 184 4:=LL' Fw Jp
@[go_sem ↓ high] theorem E4e:RS' 184 4:=SS' Jp
@[go_sem ↓ high] theorem B1b:RA' 184 (C9 (J2 4)).toArray:=fun w ρ dst ty pos after guard=>U6 w ρ dst ty pos after guard 184 (H9 (J2 4)) B5m
@[go_sem ↓ high] theorem E8t:RB' 184:=BX' _
end
theorem Dg:(Tryz.prog.info? 140).map (·.size)=some 20:=by kernel_rfl
theorem B4x:((Tryz.prog.info? 140).bind (·.zero))=some (H9 (J2 20)):=by kernel_rfl
theorem Z0:Tryz.prog.underlying 140=some (.struct (X6 Tryz.prog 140)):=by kernel_rfl
section
variable (w : World) (ρ : Operand → Value) (dst : Option Tmp) (ty : TypeId) (pos : String) (after : Array Edge) (guard : Option (Nat × Bool))
@[go_sem ↓ high] theorem E5l:RL' 140 20:=LL' Z0 Dg
@[go_sem ↓ high] theorem D8e:RS' 140 20:=SS' Dg
@[go_sem ↓ high] theorem E3j:RA' 140 (C9 (J2 20)).toArray:=fun w ρ dst ty pos after guard=>U6 w ρ dst ty pos after guard 140 (H9 (J2 20)) B4x
@[go_sem ↓ high] theorem E8z:RB' 140:=BX' _
end
theorem A2u:(Tryz.prog.info? 177).map (·.size)=some 320:=by kernel_rfl
theorem C5y:((Tryz.prog.info? 177).bind (·.zero))=some (H9 (J2 320)):=by kernel_rfl
section
variable (w : World) (ρ : Operand → Value) (dst : Option Tmp) (ty : TypeId) (pos : String) (after : Array Edge) (guard : Option (Nat × Bool))
@[go_sem ↓ high] theorem E0j:RL' 177 320:=LL' Tryz.underlying177 A2u
@[go_sem ↓ high] theorem D8a:RS' 177 320:=SS' A2u
@[go_sem ↓ high] theorem A3o:RA' 177 (C9 (J2 320)).toArray:=fun w ρ dst ty pos after guard=>U6 w ρ dst ty pos after guard 177 (H9 (J2 320)) C5y
@[go_sem ↓ high] theorem E4s:RB' 177:=BX' _
end
theorem A1s:(Tryz.prog.info? 205).map (·.size)=some 640:=by kernel_rfl
theorem C2d:((Tryz.prog.info? 205).bind (·.zero))=some (H9 (J2 640)):=by kernel_rfl
section
variable (w : World) (ρ : Operand → Value) (dst : Option Tmp) (ty : TypeId) (pos : String) (after : Array Edge) (guard : Option (Nat × Bool))
@[go_sem ↓ high] theorem D9r:RL' 205 640:=LL' Tryz.underlying205 A1s
@[go_sem ↓ high] theorem D7a:RS' 205 640:=SS' A1s
@[go_sem ↓ high] theorem D6q:RA' 205 (C9 (J2 640)).toArray:=fun w ρ dst ty pos after guard=>U6 w ρ dst ty pos after guard 205 (H9 (J2 640)) C2d
@[go_sem ↓ high] theorem E6x:RB' 205:=BX' _
end
theorem A8d (w:World):(Instr.build 136 #[]).run Tryz.prog w=.ok (H9 (J2 5)) w:=by kernel_rfl
@[go_sem ↓ high] theorem D6k (w : World) (ρ : Operand → Value) (dst : Option Tmp) (ty : TypeId) (pos : String) (after : Array Edge) (guard : Option (Nat × Bool)) :
 (execOp ρ { dst,op:=.build 136 #[],type:=ty,pos,after,guard }).run Tryz.prog w=.ok (.value (H9 (J2 5))) w:=
 T6 w ρ dst ty pos after guard _ _ _ (by simp only[List.map_toArray,List.map_nil];exact A8d w)
theorem A9h (w:World):(Instr.build 182 #[]).run Tryz.prog w=.ok (H9 (J2 4)) w:=by kernel_rfl
@[go_sem ↓ high] theorem D6w (w : World) (ρ : Operand → Value) (dst : Option Tmp) (ty : TypeId) (pos : String) (after : Array Edge) (guard : Option (Nat × Bool)) :
 (execOp ρ { dst,op:=.build 182 #[],type:=ty,pos,after,guard }).run Tryz.prog w=.ok (.value (H9 (J2 4))) w:=
 T6 w ρ dst ty pos after guard _ _ _ (by simp only[List.map_toArray,List.map_nil];exact A9h w)
theorem A6c (w:World):(Instr.build 155 #[]).run Tryz.prog w=.ok (H9 (J2 8)) w:=by kernel_rfl
@[go_sem ↓ high] theorem D5u (w : World) (ρ : Operand → Value) (dst : Option Tmp) (ty : TypeId) (pos : String) (after : Array Edge) (guard : Option (Nat × Bool)) :
 (execOp ρ { dst,op:=.build 155 #[],type:=ty,pos,after,guard }).run Tryz.prog w=.ok (.value (H9 (J2 8))) w:=
 T6 w ρ dst ty pos after guard _ _ _ (by simp only[List.map_toArray,List.map_nil];exact A6c w)
theorem B0y (w:World):(Instr.build 138 #[]).run Tryz.prog w=.ok (H9 (J2 5)) w:=by kernel_rfl
@[go_sem ↓ high] theorem D6h (w : World) (ρ : Operand → Value) (dst : Option Tmp) (ty : TypeId) (pos : String) (after : Array Edge) (guard : Option (Nat × Bool)) :
 (execOp ρ { dst,op:=.build 138 #[],type:=ty,pos,after,guard }).run Tryz.prog w=.ok (.value (H9 (J2 5))) w:=
 T6 w ρ dst ty pos after guard _ _ _ (by simp only[List.map_toArray,List.map_nil];exact B0y w)
theorem B1h (w:World):(Instr.build 184 #[]).run Tryz.prog w=.ok (H9 (J2 4)) w:=by kernel_rfl
@[go_sem ↓ high] theorem D7k (w : World) (ρ : Operand → Value) (dst : Option Tmp) (ty : TypeId) (pos : String) (after : Array Edge) (guard : Option (Nat × Bool)) :
 (execOp ρ { dst,op:=.build 184 #[],type:=ty,pos,after,guard }).run Tryz.prog w=.ok (.value (H9 (J2 4))) w:=
 T6 w ρ dst ty pos after guard _ _ _ (by simp only[List.map_toArray,List.map_nil];exact B1h w)
theorem A8u (w:World):(Instr.build 140 #[]).run Tryz.prog w=.ok (H9 (J2 20)) w:=by kernel_rfl
@[go_sem ↓ high] theorem D6n (w : World) (ρ : Operand → Value) (dst : Option Tmp) (ty : TypeId) (pos : String) (after : Array Edge) (guard : Option (Nat × Bool)) :
 (execOp ρ { dst,op:=.build 140 #[],type:=ty,pos,after,guard }).run Tryz.prog w=.ok (.value (H9 (J2 20))) w:=
 T6 w ρ dst ty pos after guard _ _ _ (by simp only[List.map_toArray,List.map_nil];exact A8u w)
theorem B9p (w:World):(Gj (X6 Tryz.prog 138)).run Tryz.prog w=.ok #[(0,5)] w:=by kernel_rfl
theorem B0u (l:List UInt64) (h:l.length=5) (w:World):(Instr.build 138 #[(0,H9 l)]).run Tryz.prog w=.ok (H9 l) w:=by
 have hz:(H9 (J2 5)).cells.toList=C9 (J2 5):=rfl;have h1:=Y6 Q9 B5t w (B9p w) #[(0,H9 l)] [(0,C9 l)] (by
  rw[hz];exact ⟨by simp[h],rfl,by simp[h],trivial⟩)
 refine h1.trans (congrArg (fun (cs:List Value)=>Result.ok (Value.agg cs.toArray) w) ?_);rw[hz];simp[Ib,Bp,h,List.drop_eq_nil_of_le,C9]
@[go_sem ↓ high] theorem E0s (w : World) (ρ : Operand → Value) (dst : Option Tmp) (ty : TypeId) (pos : String) (after : Array Edge) (guard : Option (Nat × Bool)) (x : Operand) :
 (execOp ρ { dst,op:=.build 138 #[(0,x)],type:=ty,pos,after,guard }).run Tryz.prog w=Ww 5 w (Q0 Tryz.prog ρ { dst,op:=.build 138 #[(0,x)],type:=ty,pos,after,guard } w) (ρ x):=by
 generalize hx:ρ x=a;unfold Ww;split
 ·rename_i l hl
  replace hl:=Jc hl;split
  ·rename_i h
   refine T6 w ρ dst ty pos after guard _ _ _ ?_;simp only[List.map_toArray,List.map_cons,List.map_nil,hx,hl];exact B0u l h w
  ·rfl
 ·rfl
theorem B6v (w:World):(Gj (X6 Tryz.prog 184)).run Tryz.prog w=.ok #[(0,4)] w:=by kernel_rfl
theorem B0c (l:List UInt64) (h:l.length=4) (w:World):(Instr.build 184 #[(0,H9 l)]).run Tryz.prog w=.ok (H9 l) w:=by
 have hz:(H9 (J2 4)).cells.toList=C9 (J2 4):=rfl;have h1:=Y6 Fw B5m w (B6v w) #[(0,H9 l)] [(0,C9 l)] (by
  rw[hz];exact ⟨by simp[h],rfl,by simp[h],trivial⟩)
 refine h1.trans (congrArg (fun (cs:List Value)=>Result.ok (Value.agg cs.toArray) w) ?_);rw[hz];simp[Ib,Bp,h,List.drop_eq_nil_of_le,C9]
@[go_sem ↓ high] theorem E3g (w : World) (ρ : Operand → Value) (dst : Option Tmp) (ty : TypeId) (pos : String) (after : Array Edge) (guard : Option (Nat × Bool)) (x : Operand) :
 (execOp ρ { dst,op:=.build 184 #[(0,x)],type:=ty,pos,after,guard }).run Tryz.prog w=Ww 4 w (Q0 Tryz.prog ρ { dst,op:=.build 184 #[(0,x)],type:=ty,pos,after,guard } w) (ρ x):=by
 generalize hx:ρ x=a;unfold Ww;split
 ·rename_i l hl
  replace hl:=Jc hl;split
  ·rename_i h
   refine T6 w ρ dst ty pos after guard _ _ _ ?_;simp only[List.map_toArray,List.map_cons,List.map_nil,hx,hl];exact B0c l h w
  ·rfl
 ·rfl
theorem A7h (x0 x1 x2 x3 x4:UInt64) (w:World):(Instr.build 136 #[(0,.int .u64 (J4 x0)),(1,.int .u64 (J4 x1)),(2,.int .u64 (J4 x2)),(3,.int .u64 (J4 x3)),(4,.int .u64 (J4 x4))]).run Tryz.prog w=.ok (H9 [x0,x1,x2,x3,x4]) w:=by kernel_rfl
noncomputable def Oe (w:World) (raw:Result Next) (v0 v1 v2 v3 v4:Value):Result Next:=match Cg v0,Cg v1,Cg v2,Cg v3,Cg v4 with
 | some x0,some x1,some x2,some x3,some x4=>.ok (.value (H9 [x0,x1,x2,x3,x4])) w
 | _,_,_,_,_=>raw
@[go_sem] theorem D1s (w : World) (raw : Result Next) (x0 x1 x2 x3 x4 : UInt64) : Oe w raw (.int .u64 (J4 x0)) (.int .u64 (J4 x1)) (.int .u64 (J4 x2)) (.int .u64 (J4 x3)) (.int .u64 (J4 x4)) = .ok (.value (H9 [x0, x1, x2, x3, x4])) w := by
 unfold Oe;simp only[Fe]
@[go_sem ↓ high] theorem D7q (w : World) (ρ : Operand → Value) (dst : Option Tmp) (ty : TypeId) (pos : String) (after : Array Edge) (guard : Option (Nat × Bool)) (x0 x1 x2 x3 x4 : Operand) :
 (execOp ρ { dst,op:=.build 136 #[(0,x0),(1,x1),(2,x2),(3,x3),(4,x4)],type:=ty,pos,after,guard }).run Tryz.prog w=Oe w (Q0 Tryz.prog ρ { dst,op:=.build 136 #[(0,x0),(1,x1),(2,x2),(3,x3),(4,x4)],type:=ty,pos,after,guard } w) (ρ x0) (ρ x1) (ρ x2) (ρ x3) (ρ x4):=by
 generalize h0:ρ x0=v0;generalize h1:ρ x1=v1;generalize h2:ρ x2=v2;generalize h3:ρ x3=v3;generalize h4:ρ x4=v4;unfold Oe;split
 ·rename_i y0 y1 y2 y3 y4 g0 g1 g2 g3 g4
  refine T6 w ρ dst ty pos after guard _ _ _ ?_;simp only[List.map_toArray,List.map_cons,List.map_nil,h0,Dy g0,h1,Dy g1,h2,Dy g2,h3,Dy g3,h4,Dy g4];exact A7h y0 y1 y2 y3 y4 w
 ·rfl
theorem A6i (x0 x1 x2 x3:UInt64) (w:World):(Instr.build 182 #[(0,.int .u64 (J4 x0)),(1,.int .u64 (J4 x1)),(2,.int .u64 (J4 x2)),(3,.int .u64 (J4 x3))]).run Tryz.prog w=.ok (H9 [x0,x1,x2,x3]) w:=by kernel_rfl
noncomputable def Nu (w:World) (raw:Result Next) (v0 v1 v2 v3:Value):Result Next:=match Cg v0,Cg v1,Cg v2,Cg v3 with
 | some x0,some x1,some x2,some x3=>.ok (.value (H9 [x0,x1,x2,x3])) w
 | _,_,_,_=>raw
@[go_sem] theorem D1n (w : World) (raw : Result Next) (x0 x1 x2 x3 : UInt64) : Nu w raw (.int .u64 (J4 x0)) (.int .u64 (J4 x1)) (.int .u64 (J4 x2)) (.int .u64 (J4 x3)) = .ok (.value (H9 [x0, x1, x2, x3])) w := by
 unfold Nu;simp only[Fe]
@[go_sem ↓ high] theorem D7n (w : World) (ρ : Operand → Value) (dst : Option Tmp) (ty : TypeId) (pos : String) (after : Array Edge) (guard : Option (Nat × Bool)) (x0 x1 x2 x3 : Operand) :
 (execOp ρ { dst,op:=.build 182 #[(0,x0),(1,x1),(2,x2),(3,x3)],type:=ty,pos,after,guard }).run Tryz.prog w=Nu w (Q0 Tryz.prog ρ { dst,op:=.build 182 #[(0,x0),(1,x1),(2,x2),(3,x3)],type:=ty,pos,after,guard } w) (ρ x0) (ρ x1) (ρ x2) (ρ x3):=by
 generalize h0:ρ x0=v0;generalize h1:ρ x1=v1;generalize h2:ρ x2=v2;generalize h3:ρ x3=v3;unfold Nu;split
 ·rename_i y0 y1 y2 y3 g0 g1 g2 g3
  refine T6 w ρ dst ty pos after guard _ _ _ ?_;simp only[List.map_toArray,List.map_cons,List.map_nil,h0,Dy g0,h1,Dy g1,h2,Dy g2,h3,Dy g3];exact A6i y0 y1 y2 y3 w
 ·rfl
theorem A6b (x0 x1:UInt64) (w:World):(Instr.build 211 #[(0,.int .u64 (J4 x0)),(1,.int .u64 (J4 x1))]).run Tryz.prog w=.ok (H9 [x0,x1]) w:=by kernel_rfl
noncomputable def Vf (w:World) (raw:Result Next) (v0 v1:Value):Result Next:=match Cg v0,Cg v1 with
 | some x0,some x1=>.ok (.value (H9 [x0,x1])) w
 | _,_=>raw
@[go_sem] theorem D2g (w : World) (raw : Result Next) (x0 x1 : UInt64) : Vf w raw (.int .u64 (J4 x0)) (.int .u64 (J4 x1)) = .ok (.value (H9 [x0, x1])) w := by
 unfold Vf;simp only[Fe]
@[go_sem ↓ high] theorem D6f (w : World) (ρ : Operand → Value) (dst : Option Tmp) (ty : TypeId) (pos : String) (after : Array Edge) (guard : Option (Nat × Bool)) (x0 x1 : Operand) :
 (execOp ρ { dst,op:=.build 211 #[(0,x0),(1,x1)],type:=ty,pos,after,guard }).run Tryz.prog w=Vf w (Q0 Tryz.prog ρ { dst,op:=.build 211 #[(0,x0),(1,x1)],type:=ty,pos,after,guard } w) (ρ x0) (ρ x1):=by
 generalize h0:ρ x0=v0;generalize h1:ρ x1=v1;unfold Vf;split
 ·rename_i y0 y1 g0 g1
  refine T6 w ρ dst ty pos after guard _ _ _ ?_;simp only[List.map_toArray,List.map_cons,List.map_nil,h0,Dy g0,h1,Dy g1];exact A6b y0 y1 w
 ·rfl
theorem B2j (x0 x1:UInt64) (w:World):(Instr.build 136 #[(0,.int .u64 (J4 x0)),(1,.int .u64 (J4 x1))]).run Tryz.prog w=.ok (H9 [x0,x1,0,0,0]) w:=by kernel_rfl
noncomputable def A6w (w:World) (raw:Result Next) (v0 v1:Value):Result Next:=match Cg v0,Cg v1 with
 | some x0,some x1=>.ok (.value (H9 [x0,x1,0,0,0])) w
 | _,_=>raw
@[go_sem] theorem D5y (w : World) (raw : Result Next) (x0 x1 : UInt64) : A6w w raw (.int .u64 (J4 x0)) (.int .u64 (J4 x1)) = .ok (.value (H9 [x0, x1, 0, 0, 0])) w := by
 unfold A6w;simp only[Fe]
@[go_sem ↓ high] theorem E6s (w : World) (ρ : Operand → Value) (dst : Option Tmp) (ty : TypeId) (pos : String) (after : Array Edge) (guard : Option (Nat × Bool)) (x0 x1 : Operand) :
 (execOp ρ { dst,op:=.build 136 #[(0,x0),(1,x1)],type:=ty,pos,after,guard }).run Tryz.prog w=A6w w (Q0 Tryz.prog ρ { dst,op:=.build 136 #[(0,x0),(1,x1)],type:=ty,pos,after,guard } w) (ρ x0) (ρ x1):=by
 generalize h0:ρ x0=v0;generalize h1:ρ x1=v1;unfold A6w;split
 ·rename_i y0 y1 g0 g1
  refine T6 w ρ dst ty pos after guard _ _ _ ?_;simp only[List.map_toArray,List.map_cons,List.map_nil,h0,h1,Dy g0,Dy g1];exact B2j y0 y1 w
 ·rfl
def Pw (x y z t:List UInt64):List UInt64:=x++(y++(z++t))
theorem Z4 {x y z t:List UInt64} (hx:x.length=5) (hy:y.length=5) (hz:z.length=5) (ht:t.length=5):(Pw x y z t).length=20:=by simp[Pw,hx,hy,hz,ht]
noncomputable def D0i (w:World) (raw:Result Next) (a b c d:Value):Result Next:=match Yy a,Yy b,Yy c,Yy d with
 | some x,some y,some z,some t=>if x.length=5∧y.length=5∧z.length=5∧t.length=5 then .ok (.value (H9 (Pw x y z t))) w else raw
 | _,_,_,_=>raw
@[go_sem] theorem E5z (w : World) (raw : Result Next) (x y z t : List UInt64) (hx : x.length = 5) (hy : y.length = 5) (hz : z.length = 5) (ht : t.length = 5) : D0i w raw (H9 x) (H9 y) (H9 z) (H9 t) = .ok (.value (H9 (Pw x y z t))) w := by
 unfold D0i;simp only[Rn];simp[hx,hy,hz,ht]
theorem B7o (w:World):(Gj (X6 Tryz.prog 140)).run Tryz.prog w=.ok #[(0,5),(5,5),(10,5),(15,5)] w:=by kernel_rfl
theorem D3p (x y z t:List UInt64) (hx:x.length=5) (hy:y.length=5) (hz:z.length=5) (ht:t.length=5) (w:World):(Instr.build 140 #[(0,H9 x),(1,H9 y),(2,H9 z),(3,H9 t)]).run Tryz.prog w=.ok (H9 (Pw x y z t)) w:=by
 have aA:(H9 (J2 20)).cells.toList=C9 (J2 20):=rfl;have h1:=Y6 Z0 B4x w (B7o w) #[(0,H9 x),(1,H9 y),(2,H9 z),(3,H9 t)] [(0,C9 x),(5,C9 y),(10,C9 z),(15,C9 t)] (by
  rw[aA];exact ⟨by simp[hx],rfl,by simp[hx],by simp[hy],rfl,by simp[hy],by simp[hz],rfl,by simp[hz],by simp[ht],rfl,by simp[ht],trivial⟩)
 refine h1.trans (congrArg (fun (cs:List Value)=>Result.ok (Value.agg cs.toArray) w) ?_);rw[aA];simp[Ib,Bp,hx,hy,hz,ht,List.take_append,List.drop_append,List.drop_eq_nil_of_le,List.take_of_length_le,Pw,C9]
@[go_sem ↓ high] theorem E3d (w : World) (ρ : Operand → Value) (dst : Option Tmp) (ty : TypeId) (pos : String) (after : Array Edge) (guard : Option (Nat × Bool)) (x y z t : Operand) :
 (execOp ρ { dst,op:=.build 140 #[(0,x),(1,y),(2,z),(3,t)],type:=ty,pos,after,guard }).run Tryz.prog w=D0i w (Q0 Tryz.prog ρ { dst,op:=.build 140 #[(0,x),(1,y),(2,z),(3,t)],type:=ty,pos,after,guard } w) (ρ x) (ρ y) (ρ z) (ρ t):=by
 generalize h0:ρ x=a;generalize h1:ρ y=b;generalize h2:ρ z=c;generalize h3:ρ t=d;unfold D0i;split
 ·rename_i x' y' z' t' g0 g1 g2 g3
  replace g0:=Jc g0;replace g1:=Jc g1;replace g2:=Jc g2;replace g3:=Jc g3;split
  ·rename_i h
   refine T6 w ρ dst ty pos after guard _ _ _ ?_;simp only[List.map_toArray,List.map_cons,List.map_nil,h0,h1,h2,h3,g0,g1,g2,g3];exact D3p x' y' z' t' h.1 h.2.1 h.2.2.1 h.2.2.2 w
  ·rfl
 ·rfl
section
variable {w : World} {g : Nat} {tt : TypeId} {x y z t : List UInt64}
theorem E9l (h:Bk w g tt (C9 (Pw x y z t))) (hx:x.length=5) (hy:y.length=5) (hz:z.length=5) (ht:t.length=5):J1 w ⟨g,0,none⟩ 5=some (C9 x):=by
 have:=h.rowMid 0 5 (by simp[Z4 hx hy hz ht]);rw[this];simp[Pw,C9,hx]
theorem E9g (h:Bk w g tt (C9 (Pw x y z t))) (hx:x.length=5) (hy:y.length=5) (hz:z.length=5) (ht:t.length=5):J1 w ⟨g,5,none⟩ 5=some (C9 y):=by
 have:=h.rowMid 5 5 (by simp[Z4 hx hy hz ht]);rw[this];simp[Pw,C9,hx,hy]
theorem E7h (h:Bk w g tt (C9 (Pw x y z t))) (hx:x.length=5) (hy:y.length=5) (hz:z.length=5) (ht:t.length=5):J1 w ⟨g,10,none⟩ 5=some (C9 z):=by
 have:=h.rowMid 10 5 (by simp[Z4 hx hy hz ht]);rw[this];simp[Pw,C9,hx,hy,hz,List.drop_append,List.drop_eq_nil_of_le]
theorem E8o (h:Bk w g tt (C9 (Pw x y z t))) (hx:x.length=5) (hy:y.length=5) (hz:z.length=5) (ht:t.length=5):J1 w ⟨g,15,none⟩ 5=some (C9 t):=by
 have:=h.rowMid 15 5 (by simp[Z4 hx hy hz ht]);rw[this];simp[Pw,C9,hx,hy,hz,ht,List.drop_append,List.drop_eq_nil_of_le,List.take_of_length_le]
end
theorem Bk.row64 {w:World} {g:Nat} {t:TypeId} {l:List UInt64} {n:Nat} (h:Bk w g t (C9 l)) (hl:l.length=n):J1 w ⟨g,0,none⟩ n=some (C9 l):=by have:=h.rows;rwa [Ew,hl]at this
theorem Bk.fresh64 (w:World) (t:TypeId) {l m:List UInt64} (h:l.length=m.length):Bk (D8 (w.alloc (.cells (C9 l).toArray t)) ⟨w.heap.size,0,none⟩ (C9 m)) w.heap.size t (C9 m):=(Bk.new w t (C9 l)).puts (by simp[h])
theorem Bu (W:World) (t:TypeId) (l:List UInt64) (n N:Nat) (hl:l.length=n) (hN:W.heap.size=N):T5 (W.alloc (Obj.cells (C9 l).toArray t)) ⟨N,0,none⟩ n=true:=by
 subst hl hN;exact (Bk.new W t (C9 l)).can (by simp)
def Wj (x y c:UInt64):UInt64:=x+y+c
def Yz (x y c:UInt64):UInt64:=UInt64.ofNat ((x.toNat+y.toNat+c.toNat) / 18446744073709551616)
def B8m (x y b:UInt64):UInt64:=x-y-b
def B8h (x y b:UInt64):UInt64:=if x.toNat<y.toNat+b.toNat then 1 else 0
theorem B1g (x y c:UInt64) (hc:c.toNat≤1) (w:World):(callFunc 136 #[.int .u64 (J4 x),.int .u64 (J4 y),.int .u64 (J4 c)]).run Tryz.prog w=.ok (.value (.tuple #[.int .u64 (J4 (Wj x y c)),.int .u64 (J4 (Yz x y c))])) w:=by
 have hx:=Lz x;have hy:=Lz y;rw[run_callFunc_extern (fn:=Tryz.f136) Tryz.func136 (by kernel_rfl) (by kernel_rfl) (by kernel_rfl) (e:=add64Entry) (by kernel_rfl)];unfold J4;rw[run_add64 _ _ _ (by omega) (by omega) (by omega) (by omega)];have e1:(Wj x y c).toNat=(x.toNat+y.toNat+c.toNat) % 18446744073709551616:=by unfold Wj;rw[UInt64.toNat_add,UInt64.toNat_add];omega
 have e2:(Yz x y c).toNat=(x.toNat+y.toNat+c.toNat) / 18446744073709551616:=by unfold Yz;rw[UInt64.toNat_ofNat'];omega
 simp only[Result.andThen_ok];rw[e1,e2];congr 6<;>omega
theorem B2c (x y b:Nat) (hb:b≤1) (e:Array Value→Sem Value) (he:e=fun args=>do
 let (x, y, b) ← Extern.MathBitsCarry.three "Sub64" args
 pure (Extern.MathBitsCarry.pair ((x+Extern.MathBitsCarry.m64-y-b) % Extern.MathBitsCarry.m64) (if x<y+b then 1 else 0))) (w:World) :
 (e #[.int .u64 x,.int .u64 y,.int .u64 b]).run Tryz.prog w =
  .ok (.tuple #[.int .u64 (((x+18446744073709551616-y-b) % 18446744073709551616:Nat):Int),.int .u64 ((if x<y+b then 1 else 0:Nat):Int)]) w:=by
 subst he;have:b=0∨b=1:=by omega
 rcases this with rfl | rfl<;>rfl
theorem C2t (x y c:UInt64) (hc:c.toNat≤1) (w:World):(callFunc 151 #[.int .u64 (J4 x),.int .u64 (J4 y),.int .u64 (J4 c)]).run Tryz.prog w=.ok (.value (.tuple #[.int .u64 (J4 (B8m x y c)),.int .u64 (J4 (B8h x y c))])) w:=by
 have hx:=Lz x;have hy:=Lz y;rw[run_callFunc_extern (fn:=Tryz.f151) Tryz.func151 (by kernel_rfl) (by kernel_rfl) (by kernel_rfl) (e:=fun args=>do
  let (x, y, b) ← Extern.MathBitsCarry.three "Sub64" args
  pure (Extern.MathBitsCarry.pair ((x+Extern.MathBitsCarry.m64-y-b) % Extern.MathBitsCarry.m64) (if x<y+b then 1 else 0))) (by kernel_rfl)]
 unfold J4;rw[B2c _ _ _ hc _ rfl];have e1:(B8m x y c).toNat=(x.toNat+18446744073709551616-y.toNat-c.toNat) % 18446744073709551616:=by
  unfold B8m;rw[UInt64.toNat_sub,UInt64.toNat_sub];omega
 have e2:(B8h x y c).toNat=(if x.toNat<y.toNat+c.toNat then 1 else 0):=by unfold B8h;split<;>rfl
 simp only[Result.andThen_ok];rw[e1,e2]
attribute [go_sem] B1g C2t
@[go_sem] theorem D6u (x y : UInt64) (w : World) : (callFunc 136 #[.int .u64 (J4 x), .int .u64 (J4 y), .int .u64 0]).run Tryz.prog w = .ok (.value (.tuple #[.int .u64 (J4 (Wj x y 0)), .int .u64 (J4 (Yz x y 0))])) w := B1g x y 0 (by decide) w
@[go_sem] theorem B5c (x y c : UInt64) (hc : c.toNat ≤ 1) : (Yz x y c).toNat ≤ 1 := by
 have hx:=Lz x;have hy:=Lz y;unfold Yz;rw[UInt64.toNat_ofNat'];omega
@[go_sem] theorem D9i (x y : UInt64) : (Yz x y 0).toNat ≤ 1 := B5c x y 0 (by decide)
@[go_sem] theorem C9t (x y c : UInt64) : (B8h x y c).toNat ≤ 1 := by
 unfold B8h;split<;>decide
def A7k (x y:UInt64):UInt64:=UInt64.ofNat (x.toNat*y.toNat / 18446744073709551616)
end
def C5g (x y:UInt64):UInt64:=
 let x0:=x &&& 4294967295
 let x1:=x >>> 32
 let y0:=y &&& 4294967295
 let y1:=y >>> 32
 let w0:=x0*y0
 let t:=x1*y0+w0 >>> 32
 let w1:=(t &&& 4294967295)+x0*y1
 x1*y1+t >>> 32+w1 >>> 32
theorem C1u (a b c d:Nat) (ha:a<4294967296) (hb:b<4294967296) (hc:c<4294967296) (hd:d<4294967296) :
 b*d+(b*c+a*c / 4294967296) / 4294967296+((b*c+a*c / 4294967296) % 4294967296+a*d) / 4294967296=(a+4294967296*b)*(c+4294967296*d) / 18446744073709551616:=by
 have e:(a+4294967296*b)*(c+4294967296*d)=a*c+4294967296*(b*c)+4294967296*(a*d)+18446744073709551616*(b*d):=by
  simp only[Nat.add_mul,Nat.mul_add];have e1:a*(4294967296*d)=4294967296*(a*d):=by rw[Nat.mul_left_comm]
  have e2:4294967296*b*c=4294967296*(b*c):=Nat.mul_assoc _ _ _;have e3:4294967296*b*(4294967296*d)=18446744073709551616*(b*d):=by rw[Nat.mul_assoc,Nat.mul_left_comm b];rw[←Nat.mul_assoc]
  rw[e1,e2,e3];omega
 rw[e];generalize a*c=p;generalize b*c=q;generalize a*d=r;generalize b*d=s;omega
theorem B7k (x y:UInt64):C5g x y=A7k x y:=by
 apply UInt64.toNat_inj.1;have hx:=Lz x;have hy:=Lz y;have aD:x.toNat % 4294967296<4294967296:=Nat.mod_lt _ (by decide);have aE:x.toNat / 4294967296<4294967296:=by omega
 have aF:y.toNat % 4294967296<4294967296:=Nat.mod_lt _ (by decide);have aG:y.toNat / 4294967296<4294967296:=by omega
 have aA:=C1u _ _ _ _ aD aE aF aG;have ex:x.toNat % 4294967296+4294967296*(x.toNat / 4294967296)=x.toNat:=by omega
 have ey:y.toNat % 4294967296+4294967296*(y.toNat / 4294967296)=y.toNat:=by omega
 rw[ex,ey]at aA;have b1:(x.toNat / 4294967296)*(y.toNat % 4294967296)≤4294967295*4294967295:=Nat.mul_le_mul (by omega) (by omega);have b2:(x.toNat % 4294967296)*(y.toNat % 4294967296)≤4294967295*4294967295:=Nat.mul_le_mul (by omega) (by omega);have b3:(x.toNat % 4294967296)*(y.toNat / 4294967296)≤4294967295*4294967295:=Nat.mul_le_mul (by omega) (by omega);have b4:(x.toNat / 4294967296)*(y.toNat / 4294967296)≤4294967295*4294967295:=Nat.mul_le_mul (by omega) (by omega);have aB:∀z:UInt64,(z &&& 4294967295).toNat=z.toNat % 4294967296:=fun z=>by
  rw[UInt64.toNat_and];exact Nat.and_two_pow_sub_one_eq_mod z.toNat 32
 have aC:∀z:UInt64,(z >>> 32).toNat=z.toNat / 4294967296:=fun z=>by
  rw[UInt64.toNat_shiftRight];exact Nat.shiftRight_eq_div_pow z.toNat 32
 unfold C5g A7k;simp only[UInt64.toNat_add,UInt64.toNat_mul,aB,aC,UInt64.toNat_ofNat'];have hk:x.toNat*y.toNat / 18446744073709551616<18446744073709551616:=by
  have:x.toNat*y.toNat<18446744073709551616*18446744073709551616:=Nat.mul_lt_mul'' hx hy;omega
 rw[←aA]at hk ⊢;generalize (x.toNat / 4294967296)*(y.toNat % 4294967296)=q at *;generalize (x.toNat % 4294967296)*(y.toNat % 4294967296)=p at *;generalize (x.toNat % 4294967296)*(y.toNat / 4294967296)=r at *;generalize (x.toNat / 4294967296)*(y.toNat / 4294967296)=s at *;clear aA ex ey aB aC;omega
theorem Wu (x y:UInt64) (w:World):Calls Tryz.prog 138 #[.int .u64 (J4 x),.int .u64 (J4 y)] w fun e w'=>e=.returned (.tuple #[.int .u64 (J4 (A7k x y)),.int .u64 (J4 (x*y))])∧w'=w:=by
 rw[←B7k];go_enter Tryz.func138,Tryz.ntmps138;go_wp2;go_ret2
 exact ⟨rfl,rfl⟩
def Bc (x y:UInt64):List UInt64:=[A7k x y,x*y]
@[simp, go_sem] theorem D2i (x y : UInt64) : (Bc x y).length = 2 := rfl
def M2 (p:List UInt64) (x y:UInt64):List UInt64:=[Wj (A7k x y) (E9 p 0) (Yz (x*y) (E9 p 1) 0),Wj (x*y) (E9 p 1) 0]
@[simp, go_sem] theorem C7x (p : List UInt64) (x y : UInt64) : (M2 p x y).length = 2 := rfl
def over (p:List UInt64):UInt64:=E9 p 0 <<< 13 ||| E9 p 1 >>> (51:UInt64)
def Gh (a:List UInt64):List UInt64:=[(E9 a 0 &&& (2251799813685247:UInt64))+19*(E9 a 4 >>> (51:UInt64)),(E9 a 1 &&& (2251799813685247:UInt64))+E9 a 0 >>> (51:UInt64),(E9 a 2 &&& (2251799813685247:UInt64))+E9 a 1 >>> (51:UInt64),(E9 a 3 &&& (2251799813685247:UInt64))+E9 a 2 >>> (51:UInt64),(E9 a 4 &&& (2251799813685247:UInt64))+E9 a 3 >>> (51:UInt64)]
@[simp, go_sem] theorem C6f (a : List UInt64) : (Gh a).length = 5 := rfl
def C3s (t0 t1 t2 t3 t4:List UInt64):List UInt64:=[(E9 t0 1 &&& (2251799813685247:UInt64))+19*over t4,(E9 t1 1 &&& (2251799813685247:UInt64))+over t0,(E9 t2 1 &&& (2251799813685247:UInt64))+over t1,(E9 t3 1 &&& (2251799813685247:UInt64))+over t2,(E9 t4 1 &&& (2251799813685247:UInt64))+over t3]
@[simp, go_sem] theorem D2n (t0 t1 t2 t3 t4 : List UInt64) : (C3s t0 t1 t2 t3 t4).length = 5 := rfl
def Oc (t0 t1 t2 t3 t4:List UInt64):List UInt64:=Gh (C3s t0 t1 t2 t3 t4)
@[simp, go_sem] theorem C0i (t0 t1 t2 t3 t4 : List UInt64) : (Oc t0 t1 t2 t3 t4).length = 5 := rfl
theorem U9 (x y:UInt64) (w:World):Calls Tryz.prog 131 #[.int .u64 (J4 x),.int .u64 (J4 y)] w fun e w'=>e=.returned (H9 (Bc x y))∧Below w.heap.size w w':=by
 obtain⟨W0,aA⟩:=F9 (w.alloc (Obj.cells (C9 (J2 2)).toArray 211));have B0:=BA' aA;have R0:=KN' aA;have aB:=Gy 2 R0 (by simp);go_enter Tryz.func131,Tryz.ntmps131;go_wp2_with fail;rw[←aA];clear aA;refine (Wu x y W0).mono ?_;rintro e w1 ⟨rfl,rfl⟩;go_wp2_with fail;refine bodyPost_ret (E5 rfl _ _ _ _ _ _ rfl (R0.puts (vs:=C9 (Bc x y)) (by simp)) Ws rfl (by simp[Zt])) rfl ⟨rfl,C5 B0 (Nat.le_refl _) _⟩
theorem T7 (p:List UInt64) (hp:p.length=2) (x y:UInt64) (w:World):Calls Tryz.prog 132 #[H9 p,.int .u64 (J4 x),.int .u64 (J4 y)] w fun e w'=>e=.returned (H9 (M2 p x y))∧Below w.heap.size w w':=by
 obtain⟨W0,aA⟩:=F9 ((w.alloc (Obj.cells (C9 p).toArray 211)).alloc (Obj.cells (C9 (J2 2)).toArray 211));have B0:Below w.heap.size w W0:=by rw[aA];exact (Aw _ _).alloc (by simp) _
 have P0:Bk W0 w.heap.size 211 (C9 p):=by rw[aA];exact (Bk.new w _ _).alloc _
 have R0:Bk W0 (w.heap.size+1) 211 (C9 (J2 2)):=by rw[aA];simpa using Bk.new (w.alloc (Obj.cells (C9 p).toArray 211)) 211 (C9 (J2 2))
 have aB:=Gy 2 R0 (by simp);have p0:=P0.at_ (J6 (l:=p) (i:=0) (by omega));have p1:=P0.at_ (J6 (l:=p) (i:=1) (by omega));go_enter Tryz.func132,Tryz.ntmps132;go_wp2_with fail;rw[←aA];clear aA;refine (Wu x y W0).mono ?_;rintro e w1 ⟨rfl,rfl⟩;go_wp2_with fail;refine bodyPost_ret (E5 rfl _ _ _ _ _ _ rfl (R0.puts (vs:=C9 (M2 p x y)) (by simp)) Ws rfl (by simp[Zt])) rfl ⟨rfl,C5 B0 (by simp) _⟩
theorem Qu (p:List UInt64) (hp:p.length=2) (w:World):Calls Tryz.prog 149 #[H9 p] w fun e w'=>e=.returned (.int .u64 (J4 (over p)))∧Below w.heap.size w w':=by
 obtain⟨W0,aA⟩:=F9 (w.alloc (Obj.cells (C9 p).toArray 211));have B0:=BA' aA;have P0:=KN' aA;have p0:=P0.at_ (J6 (l:=p) (i:=0) (by omega));have p1:=P0.at_ (J6 (l:=p) (i:=1) (by omega));rw[aA]at p0 p1;go_enter Tryz.func149,Tryz.ntmps149;go_wp2_with fail;rw[←aA];clear aA;go_ret;exact ⟨rfl,B0⟩
def Et (f g:Nat→UInt64) (n i:Nat):List UInt64:=(List.range n).map fun j=>if j<i then f j else g j
@[simp, go_sem] theorem Qv (f g : Nat → UInt64) (n i : Nat) : (Et f g n i).length = n := by simp [Et]
theorem He {f g:Nat→UInt64} {n i j:Nat} (hj:j<n):E9 (Et f g n i) j=if j<i then f j else g j:=by
 unfold E9 Et;rw[List.getD_eq_getElem?_getD,List.getElem?_map,List.getElem?_range hj];rfl
theorem Js {f g:Nat→UInt64} {n i:Nat} (hi:i<n) {x:UInt64} (hx:x=f i):(Et f g n i).set i x=Et f g n (i+1):=by
 subst hx;apply List.ext_getElem?;intro j;unfold Et;rw[List.getElem?_set];by_cases h:i=j
 ·subst h;rw[if_pos rfl,if_pos (by simpa using hi),List.getElem?_map,List.getElem?_range hi];simp
 ·rw[if_neg h,List.getElem?_map,List.getElem?_map];by_cases hj:j<n
  ·rw[List.getElem?_range hj];simp only[Option.map_some];have:(j<i+1)↔(j<i):=by omega
   simp[this]
  ·rw[List.getElem?_eq_none (by simpa using hj)];rfl
theorem Nz {f:Nat→UInt64} {l:List UInt64} {n:Nat} (hl:l.length=n):Et f (E9 l) n 0=l:=by
 apply List.ext_getElem?;intro j;unfold Et;rw[List.getElem?_map];by_cases hj:j<n
 ·rw[List.getElem?_range hj,List.getElem?_eq_getElem (by omega)];simp[E9,List.getD_eq_getElem?_getD,List.getElem?_eq_getElem (show j<l.length by omega)]
 ·rw[List.getElem?_eq_none (by simpa using hj),List.getElem?_eq_none (by omega)];rfl
theorem A0g {f:Nat→UInt64} {n:Nat}:Et f (fun _=>0) n 0=J2 n:=by
 apply List.ext_getElem?;intro j;unfold Et J2;rw[List.getElem?_map,List.getElem?_replicate];by_cases hj:j<n
 ·rw[List.getElem?_range hj,if_pos hj];rfl
 ·rw[List.getElem?_eq_none (by simpa using hj),if_neg hj];rfl
def Su (a:List UInt64) (j:Nat):UInt64:=E9 a j >>> (51:UInt64)
def Om (a:List UInt64) (j:Nat):UInt64:=E9 a j &&& (2251799813685247:UInt64)
def C1i (a:List UInt64):Nat→UInt64
 | 0=>Om a 0+19*Su a 4
 | j+1=>Om a (j+1)+Su a j
theorem B3a (a:List UInt64):Et (C1i a) (Om a) 5 5=Gh a:=rfl
theorem Jv (a:List UInt64) (ha:a.length=5) (w:World):Calls Tryz.prog 134 #[H9 a] w fun e w'=>e=.returned (H9 (Gh a))∧Below w.heap.size w w':=by
 obtain⟨W0,aA⟩:=F9 ((((w.alloc (Obj.cells (C9 a).toArray 138)).alloc (Obj.cells (C9 (J2 5)).toArray 138)).alloc (Obj.cells (C9 (J2 5)).toArray 136)));have B0:Below w.heap.size w W0:=by rw[aA];exact ((Aw _ _).alloc (by simp) _).alloc (by simp;omega) _
 have A0:Bk W0 w.heap.size 138 (C9 a):=by rw[aA];exact ((Bk.new w _ _).alloc _).alloc _
 have R0:Bk W0 (w.heap.size+1) 138 (C9 (J2 5)):=by rw[aA];refine Bk.alloc ?_ _;simpa using Bk.new (w.alloc (Obj.cells (C9 a).toArray 138)) 138 (C9 (J2 5))
 have C0:Bk W0 (w.heap.size+2) 136 (C9 (J2 5)):=by rw[aA];simpa using Bk.new ((w.alloc (Obj.cells (C9 a).toArray 138)).alloc (Obj.cells (C9 (J2 5)).toArray 138)) 136 (C9 (J2 5))
 have aC:=Gy 5 C0 (by simp);have C1:=C0.puts (vs:=C9 (J2 5)) (by simp);have A1:=A0.putFar (p:=⟨w.heap.size+2,0,none⟩) (by simp) (C9 (J2 5));have R1:=R0.putFar (p:=⟨w.heap.size+2,0,none⟩) (by simp) (C9 (J2 5));have B1:=C5 (a:=⟨w.heap.size+2,0,none⟩) B0 (by simp) (C9 (J2 5));rw[aA]at aC;go_enter Tryz.func134,Tryz.ntmps134;go_wp2_with fail;rw[←aA];clear aA;obtain⟨W1,aD⟩:=F9 (D8 W0 ⟨w.heap.size+2,0,none⟩ (C9 (J2 5)));rw[←aD]at C1 A1 R1 B1 ⊢;clear aD C0 A0 R0 B0 aC;rw[←A0g (f:=Su a)]at C1;rw[←Nz (f:=Om a) ha]at A1;go_loopw [7] (fun t wr=>∃i:Nat,i≤5∧t=.int .i64 (i:Int)∧Bk wr w.heap.size 138 (C9 (Et (Om a) (E9 a) 5 i))∧Bk wr (w.heap.size+2) 136 (C9 (Et (Su a) (fun _=>0) 5 i))∧Bk wr (w.heap.size+1) 138 (C9 (J2 5))∧Below w.heap.size w wr) (fun t _=>5-(intOf t).toNat)
 case atStart=>exact ⟨0,by omega,rfl,A1,C1,R1,B1⟩
 case round=>
  clear A1 C1 R1 B1;obtain⟨i,hi,rfl,K,C,R,B⟩:=hrel;by_cases hlt:i<5
  ·have k0:=K.at_ (J6 (l:=Et (Om a) (E9 a) 5 i) (i:=i) (by simpa using hlt));have f0:=K.frozen i;have c0:=C.at_ (J6 (l:=Et (Su a) (fun _=>0) 5 i) (i:=i) (by simpa using hlt));have f1:=C.frozen i;rw[He hlt,if_neg (by omega)]at k0;have C2:=C.set_ i (.int .u64 (J4 (E9 a i >>> (51:UInt64))));rw[Af,Js (f:=Su a) (g:=fun _=>0) (x:=E9 a i >>> (51:UInt64)) hlt rfl]at C2;have K2:=K.far (p:=⟨w.heap.size+2,i,none⟩) (by simp) (.int .u64 (J4 (E9 a i >>> (51:UInt64))));have R2:=R.far (p:=⟨w.heap.size+2,i,none⟩) (by simp) (.int .u64 (J4 (E9 a i >>> (51:UInt64))));have k2:=K2.at_ (J6 (l:=Et (Om a) (E9 a) 5 i) (i:=i) (by simpa using hlt));have f2:=K2.frozen i;rw[He hlt,if_neg (by omega)]at k2;have K3:=K2.set_ i (.int .u64 (J4 (E9 a i &&& (2251799813685247:UInt64))));rw[Af,Js (f:=Om a) (g:=E9 a) (x:=E9 a i &&& (2251799813685247:UInt64)) hlt rfl]at K3;have C3:=C2.far (p:=⟨w.heap.size,i,none⟩) (by simp) (.int .u64 (J4 (E9 a i &&& (2251799813685247:UInt64))));have R3:=R2.far (p:=⟨w.heap.size,i,none⟩) (by simp) (.int .u64 (J4 (E9 a i &&& (2251799813685247:UInt64))));clear K2 C2 R2 K C R;go_wp2_with fail;go_roundw;case rel=>exact ⟨i+1,by omega,by go_num,K3,C3,R3,(B.setCell (by show w.heap.size≤w.heap.size+2;omega) _).setCell (by simp) _⟩
   case measure=>simp[intOf];omega
  ·obtain rfl:i=5:=by omega
   have k0:=K.at_ (J6 (l:=Et (Om a) (E9 a) 5 5) (i:=0) (by simp));have f0:=K.frozen 0;have c4:=C.at_ (J6 (l:=Et (Su a) (fun _=>0) 5 5) (i:=4) (by simp));rw[He (by omega),if_pos (by omega)]at k0 c4;have e5:((5:Nat):Int)=5:=rfl;rw[e5];obtain⟨W2,aB⟩:=F9 (wr.setCell ⟨w.heap.size,0,none⟩ (.int .u64 (J4 (Om a 0+19*Su a 4))));have K2:Bk W2 w.heap.size 138 (C9 (Et (C1i a) (Om a) 5 1)):=by have:=K.set_ 0 (.int .u64 (J4 (Om a 0+19*Su a 4)));rw[Af]at this;rw[aB];exact this
   have C2:Bk W2 (w.heap.size+2) 136 (C9 (Et (Su a) (fun _=>0) 5 5)):=by rw[aB];exact C.far (by simp) _
   have R2:Bk W2 (w.heap.size+1) 138 (C9 (J2 5)):=by rw[aB];exact R.far (by simp) _
   have B2:Below w.heap.size w W2:=by rw[aB];exact B.setCell (by simp) _
   clear K C R B e5;go_wp2_with fail;rw[←aB];clear aB k0 c4 f0;go_loopw [5] (fun t wr=>∃i:Nat,1≤i∧i≤5∧t=.int .i64 (i:Int)∧Bk wr w.heap.size 138 (C9 (Et (C1i a) (Om a) 5 i))∧Bk wr (w.heap.size+2) 136 (C9 (Et (Su a) (fun _=>0) 5 5))∧Bk wr (w.heap.size+1) 138 (C9 (J2 5))∧Below w.heap.size w wr) (fun t _=>5-(intOf t).toNat)
   case atStart=>exact ⟨1,by omega,by omega,rfl,K2,C2,R2,B2⟩
   case round=>
    clear K2 C2 R2 B2;obtain⟨i,h1,hi,rfl,K,C,R,B⟩:=hrel;by_cases hlt:i<5
    ·obtain⟨m,rfl⟩:∃m,i=m+1:=⟨i-1,by omega⟩;have k0:=K.at_ (J6 (l:=Et (C1i a) (Om a) 5 (m+1)) (i:=m+1) (by simpa using hlt));have f0:=K.frozen (m+1);have c0:=C.at_ (J6 (l:=Et (Su a) (fun _=>0) 5 5) (i:=m) (by simp;omega));rw[He hlt,if_neg (by omega)]at k0;rw[He (by omega),if_pos (by omega)]at c0;have K3:=K.set_ (m+1) (.int .u64 (J4 (Om a (m+1)+Su a m)));rw[Af,Js (f:=C1i a) (g:=Om a) (x:=Om a (m+1)+Su a m) hlt rfl]at K3;have C3:=C.far (p:=⟨w.heap.size,m+1,none⟩) (by simp) (.int .u64 (J4 (Om a (m+1)+Su a m)));have R3:=R.far (p:=⟨w.heap.size,m+1,none⟩) (by simp) (.int .u64 (J4 (Om a (m+1)+Su a m)));clear K C R;go_wp2_with fail;refine Y7 11 (by kernel_rfl) (by kernel_rfl) ?_;simp only[List.take_succ_cons,List.take_zero,List.drop_succ_cons,List.drop_zero];repeat (go_big_quiet_step (fail))
     refine wpQuiet_nil ?_;rintro w6 ⟨aE,rfl⟩;go_wp2_with fail;go_roundw;case rel=>exact ⟨m+1+1,by omega,by omega,by go_num,K3,C3,R3,(N7 B aE).setCell (by simp) _⟩
     case measure=>simp[intOf];omega
    ·obtain rfl:i=5:=by omega
     rw[B3a]at K;have e5:((5:Nat):Int)=5:=rfl;rw[e5];clear e5;have rk:=K.row64 (n:=5) (by simp);have rc:=Gy 5 R (by simp);go_wp2_with fail;refine bodyPost_ret (E5 rfl _ _ _ _ _ _ rfl (R.puts (vs:=C9 (Gh a)) (by simp)) Q9 rfl (by simp[Z6])) rfl ⟨rfl,C5 B (by simp) _⟩
end Go.Proofs.YtlegpkdighoflaaGreat
