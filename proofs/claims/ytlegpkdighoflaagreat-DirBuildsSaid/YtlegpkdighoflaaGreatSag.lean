/- A part of the proof of DirBuilds. -/
import Derived.Laws.Externs
import Derived.Test.YtlegpkdighoflaaGreatSaf
set_option linter.unusedVariables false
set_option linter.unusedSimpArgs false
set_option maxRecDepth 100000
set_option maxHeartbeats 40000000
namespace Go.Proofs.YtlegpkdighoflaaGreat
open Go Go.RowKit Sh
abbrev RL' (t n : TypeId) : Prop := ∀ (w : World) (ρ : Operand → Value) (dst : Option Tmp) (ty : TypeId) (pos : String) (after : Array Edge) (guard : Option (Nat × Bool)) (x : Operand),
    (execOp ρ { dst, op := .load t x, type := ty, pos, after, guard }).run Tryz.prog w = Lg n w (M6 Tryz.prog ρ { dst, op := .load t x, type := ty, pos, after, guard } w) (ρ x)
theorem LL' {t n : TypeId} {d : TypeDesc} (hu : Tryz.prog.underlying t = some d) (hi : (Tryz.prog.info? t).map (·.size) = some n) (hn : 0 < n := by decide) (hd : d.isRow = true := by rfl) : RL' t n :=
  fun w ρ dst ty pos after guard x => Gx w ρ dst ty pos after guard t n d x hn hu hd hi
abbrev RS' (t n : TypeId) : Prop := ∀ (w : World) (ρ : Operand → Value) (dst : Option Tmp) (ty : TypeId) (pos : String) (after : Array Edge) (guard : Option (Nat × Bool)) (x y : Operand),
    (execOp ρ { dst, op := .store t x y, type := ty, pos, after, guard }).run Tryz.prog w = Bq n w (M6 Tryz.prog ρ { dst, op := .store t x y, type := ty, pos, after, guard } w) (ρ x) (ρ y)
theorem SS' {t n : TypeId} (hi : (Tryz.prog.info? t).map (·.size) = some n) (hn : 0 < n := by decide) : RS' t n :=
  fun w ρ dst ty pos after guard x y => Fe w ρ dst ty pos after guard t n x y hn hi
abbrev RA' (t : TypeId) (c : Array Value) : Prop := ∀ (w : World) (ρ : Operand → Value) (dst : Option Tmp) (ty : TypeId) (pos : String) (after : Array Edge) (guard : Option (Nat × Bool)),
    (execOp ρ { dst, op := .alloc t, type := ty, pos, after, guard }).run Tryz.prog w = .ok (.value (.pointer (some ⟨w.heap.size, 0, none⟩))) (w.alloc (.cells c t))
abbrev RB' (t : TypeId) : Prop := ∀ (w : World) (ρ : Operand → Value) (dst : Option Tmp) (ty : TypeId) (pos : String) (after : Array Edge) (guard : Option (Nat × Bool)) (x : Operand),
    (execOp ρ { dst, op := .box t x, type := ty, pos, after, guard }).run Tryz.prog w = Ue t w (M6 Tryz.prog ρ { dst, op := .box t x, type := ty, pos, after, guard } w) (ρ x)
theorem BX' (t : TypeId) : RB' t := fun w ρ dst ty pos after guard x => A1y w ρ dst ty pos after guard t x
section
theorem B8m (x y:UInt64):Op.intArith .sub .u64 (J0 x) (J0 y)=pure (.int .u64 (J0 (x-y))):=by
 unfold Op.intArith J0;have hx:=Jn x;have hy:=Jn y;have e:IntKind.u64.wrap ((x.toNat:Int)-(y.toNat:Int))=(((18446744073709551616-y.toNat+x.toNat) % 18446744073709551616:Nat):Int):=by
  simp only[IntKind.wrap,IntKind.bits,IntKind.signed,Bool.false_and,Bool.false_eq_true,if_false];omega
 rw[e,UInt64.toNat_sub]
attribute [go_sem ↓ high] B8m
noncomputable def Ya (v:Value):Option (List UInt64):=open Classical in if h:∃l,v=J7 l then some h.choose else none
theorem B3l {x y:UInt64} (h:Vp x=Vp y):x=y:=by
 unfold Vp at h;injection h with _ h;exact A7o h
theorem D2v {xs ys:List UInt64} (h:J7 xs=J7 ys):xs=ys:=by
 unfold J7 C7 at h;injection h with h;have h':(xs.map Vp)=(ys.map Vp):=by simpa using congrArg Array.toList h
 exact (List.map_inj_right fun _ _=>B3l).1 h'
theorem Va (l:List UInt64):Ya (J7 l)=some l:=by
 have h:∃m,J7 l=J7 m:=⟨l,rfl⟩;unfold Ya;rw[dif_pos h];exact congrArg some (D2v h.choose_spec).symm
theorem Gi {v:Value} {l:List UInt64} (h:Ya v=some l):v=J7 l:=by
 unfold Ya at h;split at h
 ·rename_i hh
  injection h with h;rw[←h];exact hh.choose_spec
 ·cases h
@[go_sem] theorem E0j (t : TypeId) (w : World) (raw : Result Next) (l : List UInt64) : Ue t w raw (J7 l) = .ok (.value (.pointer (some ⟨w.heap.size, 0, none⟩))) (w.alloc (.cells (C7 l).toArray t)) := rfl
noncomputable def Vy (n:Nat) (w:World) (raw:Result Next) (v:Value):Result Next:=match Ya v with
 | some l=>if l.length=n then .ok (.value (J7 l)) w else raw
 | none=>raw
@[go_sem] theorem D9i (n : Nat) (w : World) (raw : Result Next) (l : List UInt64) (h : l.length = n) : Vy n w raw (J7 l) = .ok (.value (J7 l)) w := by
 unfold Vy;rw[Va];simp[h]
noncomputable def Ai (v:Value):Option UInt64:=open Classical in if h:∃x,v=Vp x then some h.choose else none
theorem De (x:UInt64):Ai (.int .u64 (J0 x))=some x:=by
 have h:∃y,Vp x=Vp y:=⟨x,rfl⟩;show Ai (Vp x)=_;unfold Ai;rw[dif_pos h];exact congrArg some (B3l h.choose_spec).symm
theorem Cb {v:Value} {x:UInt64} (h:Ai v=some x):v=.int .u64 (J0 x):=by
 unfold Ai at h;split at h
 ·rename_i hh
  injection h with h;rw[←h];exact hh.choose_spec
 ·cases h
@[go_sem ↓ high] theorem E9i (x : UInt64) (k : IntKind) : Op.shift .shr .u64 (J0 x) k 4 = pure (.int .u64 (J0 (x >>> 4))) := Bi x k 4 (by decide)
@[go_sem ↓ high] theorem F0h (x : UInt64) (k : IntKind) : Op.shift .shl .u64 (J0 x) k 4 = pure (.int .u64 (J0 (x <<< 4))) := Bp x k 4 (by decide)
@[go_sem ↓ high] theorem E8c (x : UInt64) (k : IntKind) : Op.shift .shr .u64 (J0 x) k 5 = pure (.int .u64 (J0 (x >>> 5))) := Bi x k 5 (by decide)
@[go_sem ↓ high] theorem E9x (x : UInt64) (k : IntKind) : Op.shift .shl .u64 (J0 x) k 5 = pure (.int .u64 (J0 (x <<< 5))) := Bp x k 5 (by decide)
@[go_sem ↓ high] theorem E4x (x : UInt64) (k : IntKind) : Op.shift .shr .u64 (J0 x) k 12 = pure (.int .u64 (J0 (x >>> 12))) := Bi x k 12 (by decide)
@[go_sem ↓ high] theorem E1c (x : UInt64) (k : IntKind) : Op.shift .shl .u64 (J0 x) k 12 = pure (.int .u64 (J0 (x <<< 12))) := Bp x k 12 (by decide)
@[go_sem ↓ high] theorem E5y (x : UInt64) (k : IntKind) : Op.shift .shr .u64 (J0 x) k 13 = pure (.int .u64 (J0 (x >>> 13))) := Bi x k 13 (by decide)
@[go_sem ↓ high] theorem E7i (x : UInt64) (k : IntKind) : Op.shift .shl .u64 (J0 x) k 13 = pure (.int .u64 (J0 (x <<< 13))) := Bp x k 13 (by decide)
@[go_sem ↓ high] theorem E2t (x : UInt64) (k : IntKind) : Op.shift .shr .u64 (J0 x) k 25 = pure (.int .u64 (J0 (x >>> 25))) := Bi x k 25 (by decide)
@[go_sem ↓ high] theorem E1k (x : UInt64) (k : IntKind) : Op.shift .shl .u64 (J0 x) k 25 = pure (.int .u64 (J0 (x <<< 25))) := Bp x k 25 (by decide)
@[go_sem ↓ high] theorem E6b (x : UInt64) (k : IntKind) : Op.shift .shr .u64 (J0 x) k 26 = pure (.int .u64 (J0 (x >>> 26))) := Bi x k 26 (by decide)
@[go_sem ↓ high] theorem E5o (x : UInt64) (k : IntKind) : Op.shift .shl .u64 (J0 x) k 26 = pure (.int .u64 (J0 (x <<< 26))) := Bp x k 26 (by decide)
@[go_sem ↓ high] theorem E7n (x : UInt64) (k : IntKind) : Op.shift .shr .u64 (J0 x) k 38 = pure (.int .u64 (J0 (x >>> 38))) := Bi x k 38 (by decide)
@[go_sem ↓ high] theorem E4j (x : UInt64) (k : IntKind) : Op.shift .shl .u64 (J0 x) k 38 = pure (.int .u64 (J0 (x <<< 38))) := Bp x k 38 (by decide)
@[go_sem ↓ high] theorem E3j (x : UInt64) (k : IntKind) : Op.shift .shr .u64 (J0 x) k 39 = pure (.int .u64 (J0 (x >>> 39))) := Bi x k 39 (by decide)
@[go_sem ↓ high] theorem E4c (x : UInt64) (k : IntKind) : Op.shift .shl .u64 (J0 x) k 39 = pure (.int .u64 (J0 (x <<< 39))) := Bp x k 39 (by decide)
@[go_sem ↓ high] theorem E3e (x : UInt64) (k : IntKind) : Op.shift .shr .u64 (J0 x) k 51 = pure (.int .u64 (J0 (x >>> 51))) := Bi x k 51 (by decide)
@[go_sem ↓ high] theorem E2a (x : UInt64) (k : IntKind) : Op.shift .shl .u64 (J0 x) k 51 = pure (.int .u64 (J0 (x <<< 51))) := Bp x k 51 (by decide)
@[go_sem ↓ high] theorem E6t (x : UInt64) (k : IntKind) : Op.shift .shr .u64 (J0 x) k 60 = pure (.int .u64 (J0 (x >>> 60))) := Bi x k 60 (by decide)
@[go_sem ↓ high] theorem E3o (x : UInt64) (k : IntKind) : Op.shift .shl .u64 (J0 x) k 60 = pure (.int .u64 (J0 (x <<< 60))) := Bp x k 60 (by decide)
@[go_sem ↓ high] theorem E7o (x : UInt64) (k : IntKind) : Op.shift .shr .u64 (J0 x) k 63 = pure (.int .u64 (J0 (x >>> 63))) := Bi x k 63 (by decide)
@[go_sem ↓ high] theorem E1o (x : UInt64) (k : IntKind) : Op.shift .shl .u64 (J0 x) k 63 = pure (.int .u64 (J0 (x <<< 63))) := Bp x k 63 (by decide)
@[go_sem ↓ high] theorem E9r (x : UInt64) : Op.intBits .and .u64 (J0 x) 1 = pure (.int .u64 (J0 (x &&& 1))) := B2q x 1
@[go_sem ↓ high] theorem E5i (x : UInt64) : Op.intBits .and .u64 (J0 x) 15 = pure (.int .u64 (J0 (x &&& 15))) := B2q x 15
@[go_sem ↓ high] theorem B8w (x : UInt64) : Op.intBits .and .u64 (J0 x) 4294967295 = pure (.int .u64 (J0 (x &&& 4294967295))) := B2q x 4294967295
@[go_sem ↓ high] theorem A6k (x : UInt64) : Op.intBits .and .u64 (J0 x) 2251799813685247 = pure (.int .u64 (J0 (x &&& 2251799813685247))) := B2q x 2251799813685247
@[go_sem ↓ high] theorem F0s (x : UInt8) : Op.intBits .and .u8 (n8 x) 1 = pure (.int .u8 (n8 (x &&& 1))) := C5e x 1
@[go_sem ↓ high] theorem F0g (x : UInt8) : Op.intBits .and .u8 (n8 x) 15 = pure (.int .u8 (n8 (x &&& 15))) := C5e x 15
@[go_sem ↓ high] theorem E3r (x : UInt8) : Op.intBits .and .u8 (n8 x) 127 = pure (.int .u8 (n8 (x &&& 127))) := C5e x 127
@[go_sem ↓ high] theorem E4b (x : UInt8) : Op.intBits .and .u8 (n8 x) 248 = pure (.int .u8 (n8 (x &&& 248))) := C5e x 248
@[go_sem ↓ high] theorem F2h (x : UInt8) : Op.intBits .or .u8 (n8 x) 64 = pure (.int .u8 (n8 (x ||| 64))) := or8 x 64
@[go_sem ↓ high] theorem E8m (x : UInt8) : Op.intBits .or .u8 (n8 x) 128 = pure (.int .u8 (n8 (x ||| 128))) := or8 x 128
@[go_sem ↓ high] theorem E9h (x : UInt64) : Op.intArith .mul .u64 2 (J0 x) = pure (.int .u64 (J0 (2 * x))) := A5n 2 x
@[go_sem ↓ high] theorem E4s (x : UInt64) : Op.intArith .mul .u64 19 (J0 x) = pure (.int .u64 (J0 (19 * x))) := A5n 19 x
@[go_sem ↓ high] theorem E1z (x : UInt64) : Op.intArith .add .u64 (J0 x) 19 = pure (.int .u64 (J0 (x + 19))) := add64 x 19
@[go_sem ↓ high] theorem E6e (x : UInt64) : Op.intArith .sub .u64 (J0 x) 72 = pure (.int .u64 (J0 (x - 72))) := B8m x 72
@[go_sem ↓ high] theorem E0v (x : UInt64) : Op.intArith .sub .u64 9007199254740988 (J0 x) = pure (.int .u64 (J0 (9007199254740988 - x))) := B8m 9007199254740988 x
theorem B7w:(Tryz.prog.info? 136).map (·.size)=some 5:=by kernel_rfl
theorem D1v:((Tryz.prog.info? 136).bind (·.zero))=some (J7 (J8 5)):=by kernel_rfl
section
variable (w : World) (ρ : Operand → Value) (dst : Option Tmp) (ty : TypeId) (pos : String) (after : Array Edge) (guard : Option (Nat × Bool))
@[go_sem ↓ high] theorem E7y:RL' 136 5:=LL' Tryz.underlying136 B7w
@[go_sem ↓ high] theorem E3l:RS' 136 5:=SS' B7w
@[go_sem ↓ high] theorem E7l:RA' 136 (C7 (J8 5)).toArray:=fun w ρ dst ty pos after guard=>N8 w ρ dst ty pos after guard 136 (J7 (J8 5)) D1v
@[go_sem ↓ high] theorem F2d:RB' 136:=BX' _
end
theorem Ud:(Tryz.prog.info? 182).map (·.size)=some 4:=by kernel_rfl
theorem D2r:((Tryz.prog.info? 182).bind (·.zero))=some (J7 (J8 4)):=by kernel_rfl
section
variable (w : World) (ρ : Operand → Value) (dst : Option Tmp) (ty : TypeId) (pos : String) (after : Array Edge) (guard : Option (Nat × Bool))
@[go_sem ↓ high] theorem E8z:RL' 182 4:=LL' Tryz.underlying182 Ud
@[go_sem ↓ high] theorem E1f:RS' 182 4:=SS' Ud
@[go_sem ↓ high] theorem E4z:RA' 182 (C7 (J8 4)).toArray:=fun w ρ dst ty pos after guard=>N8 w ρ dst ty pos after guard 182 (J7 (J8 4)) D2r
@[go_sem ↓ high] theorem F0t:RB' 182:=BX' _
end
theorem Mh:(Tryz.prog.info? 138).map (·.size)=some 5:=by kernel_rfl
theorem B8e:((Tryz.prog.info? 138).bind (·.zero))=some (J7 (J8 5)):=by kernel_rfl
theorem Fp:Tryz.prog.underlying 138=some (.struct (Q0 Tryz.prog 138)):=by kernel_rfl
section
variable (w : World) (ρ : Operand → Value) (dst : Option Tmp) (ty : TypeId) (pos : String) (after : Array Edge) (guard : Option (Nat × Bool))
@[go_sem ↓ high] theorem E9u:RL' 138 5:=LL' Fp Mh
@[go_sem ↓ high] theorem E7h:RS' 138 5:=SS' Mh
@[go_sem ↓ high] theorem E3t:RA' 138 (C7 (J8 5)).toArray:=fun w ρ dst ty pos after guard=>N8 w ρ dst ty pos after guard 138 (J7 (J8 5)) B8e
@[go_sem ↓ high] theorem F0m:RB' 138:=BX' _
end
theorem Yt:(Tryz.prog.info? 211).map (·.size)=some 2:=by kernel_rfl
theorem D1n:((Tryz.prog.info? 211).bind (·.zero))=some (J7 (J8 2)):=by kernel_rfl
theorem Wh:Tryz.prog.underlying 211=some (.struct (Q0 Tryz.prog 211)):=by kernel_rfl
section
variable (w : World) (ρ : Operand → Value) (dst : Option Tmp) (ty : TypeId) (pos : String) (after : Array Edge) (guard : Option (Nat × Bool))
@[go_sem ↓ high] theorem E9b:RL' 211 2:=LL' Wh Yt
@[go_sem ↓ high] theorem E2o:RS' 211 2:=SS' Yt
@[go_sem ↓ high] theorem E6k:RA' 211 (C7 (J8 2)).toArray:=fun w ρ dst ty pos after guard=>N8 w ρ dst ty pos after guard 211 (J7 (J8 2)) D1n
@[go_sem ↓ high] theorem F1b:RB' 211:=BX' _
end
theorem He:(Tryz.prog.info? 184).map (·.size)=some 4:=by kernel_rfl
theorem B6z:((Tryz.prog.info? 184).bind (·.zero))=some (J7 (J8 4)):=by kernel_rfl
theorem Dt:Tryz.prog.underlying 184=some (.struct (Q0 Tryz.prog 184)):=by kernel_rfl
section
variable (w : World) (ρ : Operand → Value) (dst : Option Tmp) (ty : TypeId) (pos : String) (after : Array Edge) (guard : Option (Nat × Bool))
@[go_sem ↓ high] theorem E8v:RL' 184 4:=LL' Dt He
@[go_sem ↓ high] theorem E1d:RS' 184 4:=SS' He
@[go_sem ↓ high] theorem B2y:RA' 184 (C7 (J8 4)).toArray:=fun w ρ dst ty pos after guard=>N8 w ρ dst ty pos after guard 184 (J7 (J8 4)) B6z
@[go_sem ↓ high] theorem F1k:RB' 184:=BX' _
end
theorem Rj:(Tryz.prog.info? 140).map (·.size)=some 20:=by kernel_rfl
theorem B7o:((Tryz.prog.info? 140).bind (·.zero))=some (J7 (J8 20)):=by kernel_rfl
theorem Hc:Tryz.prog.underlying 140=some (.struct (Q0 Tryz.prog 140)):=by kernel_rfl
section
variable (w : World) (ρ : Operand → Value) (dst : Option Tmp) (ty : TypeId) (pos : String) (after : Array Edge) (guard : Option (Nat × Bool))
@[go_sem ↓ high] theorem E9m:RL' 140 20:=LL' Hc Rj
@[go_sem ↓ high] theorem E7s:RS' 140 20:=SS' Rj
@[go_sem ↓ high] theorem E6s:RA' 140 (C7 (J8 20)).toArray:=fun w ρ dst ty pos after guard=>N8 w ρ dst ty pos after guard 140 (J7 (J8 20)) B7o
@[go_sem ↓ high] theorem F1p:RB' 140:=BX' _
end
theorem B0e:(Tryz.prog.info? 177).map (·.size)=some 320:=by kernel_rfl
theorem C3u:((Tryz.prog.info? 177).bind (·.zero))=some (J7 (J8 320)):=by kernel_rfl
section
variable (w : World) (ρ : Operand → Value) (dst : Option Tmp) (ty : TypeId) (pos : String) (after : Array Edge) (guard : Option (Nat × Bool))
@[go_sem ↓ high] theorem E2b:RL' 177 320:=LL' Tryz.underlying177 B0e
@[go_sem ↓ high] theorem D9y:RS' 177 320:=SS' B0e
@[go_sem ↓ high] theorem A5b:RA' 177 (C7 (J8 320)).toArray:=fun w ρ dst ty pos after guard=>N8 w ρ dst ty pos after guard 177 (J7 (J8 320)) C3u
@[go_sem ↓ high] theorem E9e:RB' 177:=BX' _
end
theorem Yz:(Tryz.prog.info? 205).map (·.size)=some 640:=by kernel_rfl
theorem C5l:((Tryz.prog.info? 205).bind (·.zero))=some (J7 (J8 640)):=by kernel_rfl
section
variable (w : World) (ρ : Operand → Value) (dst : Option Tmp) (ty : TypeId) (pos : String) (after : Array Edge) (guard : Option (Nat × Bool))
@[go_sem ↓ high] theorem E4f:RL' 205 640:=LL' Tryz.underlying205 Yz
@[go_sem ↓ high] theorem D8q:RS' 205 640:=SS' Yz
@[go_sem ↓ high] theorem D9w:RA' 205 (C7 (J8 640)).toArray:=fun w ρ dst ty pos after guard=>N8 w ρ dst ty pos after guard 205 (J7 (J8 640)) C5l
@[go_sem ↓ high] theorem E9t:RB' 205:=BX' _
end
theorem B0o (w:World):(Instr.build 136 #[]).run Tryz.prog w=.ok (J7 (J8 5)) w:=by kernel_rfl
@[go_sem ↓ high] theorem E0q (w : World) (ρ : Operand → Value) (dst : Option Tmp) (ty : TypeId) (pos : String) (after : Array Edge) (guard : Option (Nat × Bool)) :
 (execOp ρ { dst,op:=.build 136 #[],type:=ty,pos,after,guard }).run Tryz.prog w=.ok (.value (J7 (J8 5))) w:=
 N7 w ρ dst ty pos after guard _ _ _ (by simp only[List.map_toArray,List.map_nil];exact B0o w)
theorem B2g (w:World):(Instr.build 182 #[]).run Tryz.prog w=.ok (J7 (J8 4)) w:=by kernel_rfl
@[go_sem ↓ high] theorem D8v (w : World) (ρ : Operand → Value) (dst : Option Tmp) (ty : TypeId) (pos : String) (after : Array Edge) (guard : Option (Nat × Bool)) :
 (execOp ρ { dst,op:=.build 182 #[],type:=ty,pos,after,guard }).run Tryz.prog w=.ok (.value (J7 (J8 4))) w:=
 N7 w ρ dst ty pos after guard _ _ _ (by simp only[List.map_toArray,List.map_nil];exact B2g w)
theorem A8h (w:World):(Instr.build 155 #[]).run Tryz.prog w=.ok (J7 (J8 8)) w:=by kernel_rfl
@[go_sem ↓ high] theorem D8h (w : World) (ρ : Operand → Value) (dst : Option Tmp) (ty : TypeId) (pos : String) (after : Array Edge) (guard : Option (Nat × Bool)) :
 (execOp ρ { dst,op:=.build 155 #[],type:=ty,pos,after,guard }).run Tryz.prog w=.ok (.value (J7 (J8 8))) w:=
 N7 w ρ dst ty pos after guard _ _ _ (by simp only[List.map_toArray,List.map_nil];exact A8h w)
theorem B1i (w:World):(Instr.build 138 #[]).run Tryz.prog w=.ok (J7 (J8 5)) w:=by kernel_rfl
@[go_sem ↓ high] theorem E0g (w : World) (ρ : Operand → Value) (dst : Option Tmp) (ty : TypeId) (pos : String) (after : Array Edge) (guard : Option (Nat × Bool)) :
 (execOp ρ { dst,op:=.build 138 #[],type:=ty,pos,after,guard }).run Tryz.prog w=.ok (.value (J7 (J8 5))) w:=
 N7 w ρ dst ty pos after guard _ _ _ (by simp only[List.map_toArray,List.map_nil];exact B1i w)
theorem B2j (w:World):(Instr.build 184 #[]).run Tryz.prog w=.ok (J7 (J8 4)) w:=by kernel_rfl
@[go_sem ↓ high] theorem D9c (w : World) (ρ : Operand → Value) (dst : Option Tmp) (ty : TypeId) (pos : String) (after : Array Edge) (guard : Option (Nat × Bool)) :
 (execOp ρ { dst,op:=.build 184 #[],type:=ty,pos,after,guard }).run Tryz.prog w=.ok (.value (J7 (J8 4))) w:=
 N7 w ρ dst ty pos after guard _ _ _ (by simp only[List.map_toArray,List.map_nil];exact B2j w)
theorem A9s (w:World):(Instr.build 140 #[]).run Tryz.prog w=.ok (J7 (J8 20)) w:=by kernel_rfl
@[go_sem ↓ high] theorem D9a (w : World) (ρ : Operand → Value) (dst : Option Tmp) (ty : TypeId) (pos : String) (after : Array Edge) (guard : Option (Nat × Bool)) :
 (execOp ρ { dst,op:=.build 140 #[],type:=ty,pos,after,guard }).run Tryz.prog w=.ok (.value (J7 (J8 20))) w:=
 N7 w ρ dst ty pos after guard _ _ _ (by simp only[List.map_toArray,List.map_nil];exact A9s w)
theorem C1u (w:World):(Ee (Q0 Tryz.prog 138)).run Tryz.prog w=.ok #[(0,5)] w:=by kernel_rfl
theorem A9a (l:List UInt64) (h:l.length=5) (w:World):(Instr.build 138 #[(0,J7 l)]).run Tryz.prog w=.ok (J7 l) w:=by
 have hz:(J7 (J8 5)).cells.toList=C7 (J8 5):=rfl;have h1:=Q9 Fp B8e w (C1u w) #[(0,J7 l)] [(0,C7 l)] (by
  rw[hz];exact ⟨by simp[h],rfl,by simp[h],trivial⟩)
 refine h1.trans (congrArg (fun (cs:List Value)=>Result.ok (Value.agg cs.toArray) w) ?_);rw[hz];simp[Fg,Z0,h,List.drop_eq_nil_of_le,C7]
@[go_sem ↓ high] theorem E6p (w : World) (ρ : Operand → Value) (dst : Option Tmp) (ty : TypeId) (pos : String) (after : Array Edge) (guard : Option (Nat × Bool)) (x : Operand) :
 (execOp ρ { dst,op:=.build 138 #[(0,x)],type:=ty,pos,after,guard }).run Tryz.prog w=Vy 5 w (M6 Tryz.prog ρ { dst,op:=.build 138 #[(0,x)],type:=ty,pos,after,guard } w) (ρ x):=by
 generalize hx:ρ x=a;unfold Vy;split
 ·rename_i l hl
  replace hl:=Gi hl;split
  ·rename_i h
   refine N7 w ρ dst ty pos after guard _ _ _ ?_;simp only[List.map_toArray,List.map_cons,List.map_nil,hx,hl];exact A9a l h w
  ·rfl
 ·rfl
theorem B9v (w:World):(Ee (Q0 Tryz.prog 184)).run Tryz.prog w=.ok #[(0,4)] w:=by kernel_rfl
theorem A9g (l:List UInt64) (h:l.length=4) (w:World):(Instr.build 184 #[(0,J7 l)]).run Tryz.prog w=.ok (J7 l) w:=by
 have hz:(J7 (J8 4)).cells.toList=C7 (J8 4):=rfl;have h1:=Q9 Dt B6z w (B9v w) #[(0,J7 l)] [(0,C7 l)] (by
  rw[hz];exact ⟨by simp[h],rfl,by simp[h],trivial⟩)
 refine h1.trans (congrArg (fun (cs:List Value)=>Result.ok (Value.agg cs.toArray) w) ?_);rw[hz];simp[Fg,Z0,h,List.drop_eq_nil_of_le,C7]
@[go_sem ↓ high] theorem E2m (w : World) (ρ : Operand → Value) (dst : Option Tmp) (ty : TypeId) (pos : String) (after : Array Edge) (guard : Option (Nat × Bool)) (x : Operand) :
 (execOp ρ { dst,op:=.build 184 #[(0,x)],type:=ty,pos,after,guard }).run Tryz.prog w=Vy 4 w (M6 Tryz.prog ρ { dst,op:=.build 184 #[(0,x)],type:=ty,pos,after,guard } w) (ρ x):=by
 generalize hx:ρ x=a;unfold Vy;split
 ·rename_i l hl
  replace hl:=Gi hl;split
  ·rename_i h
   refine N7 w ρ dst ty pos after guard _ _ _ ?_;simp only[List.map_toArray,List.map_cons,List.map_nil,hx,hl];exact A9g l h w
  ·rfl
 ·rfl
theorem A6y (x0 x1 x2 x3 x4:UInt64) (w:World):(Instr.build 136 #[(0,.int .u64 (J0 x0)),(1,.int .u64 (J0 x1)),(2,.int .u64 (J0 x2)),(3,.int .u64 (J0 x3)),(4,.int .u64 (J0 x4))]).run Tryz.prog w=.ok (J7 [x0,x1,x2,x3,x4]) w:=by kernel_rfl
noncomputable def Lr (w:World) (raw:Result Next) (v0 v1 v2 v3 v4:Value):Result Next:=match Ai v0,Ai v1,Ai v2,Ai v3,Ai v4 with
 | some x0,some x1,some x2,some x3,some x4=>.ok (.value (J7 [x0,x1,x2,x3,x4])) w
 | _,_,_,_,_=>raw
@[go_sem] theorem D4s (w : World) (raw : Result Next) (x0 x1 x2 x3 x4 : UInt64) : Lr w raw (.int .u64 (J0 x0)) (.int .u64 (J0 x1)) (.int .u64 (J0 x2)) (.int .u64 (J0 x3)) (.int .u64 (J0 x4)) = .ok (.value (J7 [x0, x1, x2, x3, x4])) w := by
 unfold Lr;simp only[De]
@[go_sem ↓ high] theorem E0p (w : World) (ρ : Operand → Value) (dst : Option Tmp) (ty : TypeId) (pos : String) (after : Array Edge) (guard : Option (Nat × Bool)) (x0 x1 x2 x3 x4 : Operand) :
 (execOp ρ { dst,op:=.build 136 #[(0,x0),(1,x1),(2,x2),(3,x3),(4,x4)],type:=ty,pos,after,guard }).run Tryz.prog w=Lr w (M6 Tryz.prog ρ { dst,op:=.build 136 #[(0,x0),(1,x1),(2,x2),(3,x3),(4,x4)],type:=ty,pos,after,guard } w) (ρ x0) (ρ x1) (ρ x2) (ρ x3) (ρ x4):=by
 generalize h0:ρ x0=v0;generalize h1:ρ x1=v1;generalize h2:ρ x2=v2;generalize h3:ρ x3=v3;generalize h4:ρ x4=v4;unfold Lr;split
 ·rename_i y0 y1 y2 y3 y4 g0 g1 g2 g3 g4
  refine N7 w ρ dst ty pos after guard _ _ _ ?_;simp only[List.map_toArray,List.map_cons,List.map_nil,h0,Cb g0,h1,Cb g1,h2,Cb g2,h3,Cb g3,h4,Cb g4];exact A6y y0 y1 y2 y3 y4 w
 ·rfl
theorem A7z (x0 x1 x2 x3:UInt64) (w:World):(Instr.build 182 #[(0,.int .u64 (J0 x0)),(1,.int .u64 (J0 x1)),(2,.int .u64 (J0 x2)),(3,.int .u64 (J0 x3))]).run Tryz.prog w=.ok (J7 [x0,x1,x2,x3]) w:=by kernel_rfl
noncomputable def Lu (w:World) (raw:Result Next) (v0 v1 v2 v3:Value):Result Next:=match Ai v0,Ai v1,Ai v2,Ai v3 with
 | some x0,some x1,some x2,some x3=>.ok (.value (J7 [x0,x1,x2,x3])) w
 | _,_,_,_=>raw
@[go_sem] theorem D3i (w : World) (raw : Result Next) (x0 x1 x2 x3 : UInt64) : Lu w raw (.int .u64 (J0 x0)) (.int .u64 (J0 x1)) (.int .u64 (J0 x2)) (.int .u64 (J0 x3)) = .ok (.value (J7 [x0, x1, x2, x3])) w := by
 unfold Lu;simp only[De]
@[go_sem ↓ high] theorem D9r (w : World) (ρ : Operand → Value) (dst : Option Tmp) (ty : TypeId) (pos : String) (after : Array Edge) (guard : Option (Nat × Bool)) (x0 x1 x2 x3 : Operand) :
 (execOp ρ { dst,op:=.build 182 #[(0,x0),(1,x1),(2,x2),(3,x3)],type:=ty,pos,after,guard }).run Tryz.prog w=Lu w (M6 Tryz.prog ρ { dst,op:=.build 182 #[(0,x0),(1,x1),(2,x2),(3,x3)],type:=ty,pos,after,guard } w) (ρ x0) (ρ x1) (ρ x2) (ρ x3):=by
 generalize h0:ρ x0=v0;generalize h1:ρ x1=v1;generalize h2:ρ x2=v2;generalize h3:ρ x3=v3;unfold Lu;split
 ·rename_i y0 y1 y2 y3 g0 g1 g2 g3
  refine N7 w ρ dst ty pos after guard _ _ _ ?_;simp only[List.map_toArray,List.map_cons,List.map_nil,h0,Cb g0,h1,Cb g1,h2,Cb g2,h3,Cb g3];exact A7z y0 y1 y2 y3 w
 ·rfl
theorem A6l (x0 x1:UInt64) (w:World):(Instr.build 211 #[(0,.int .u64 (J0 x0)),(1,.int .u64 (J0 x1))]).run Tryz.prog w=.ok (J7 [x0,x1]) w:=by kernel_rfl
noncomputable def Vc (w:World) (raw:Result Next) (v0 v1:Value):Result Next:=match Ai v0,Ai v1 with
 | some x0,some x1=>.ok (.value (J7 [x0,x1])) w
 | _,_=>raw
@[go_sem] theorem D3x (w : World) (raw : Result Next) (x0 x1 : UInt64) : Vc w raw (.int .u64 (J0 x0)) (.int .u64 (J0 x1)) = .ok (.value (J7 [x0, x1])) w := by
 unfold Vc;simp only[De]
@[go_sem ↓ high] theorem D9m (w : World) (ρ : Operand → Value) (dst : Option Tmp) (ty : TypeId) (pos : String) (after : Array Edge) (guard : Option (Nat × Bool)) (x0 x1 : Operand) :
 (execOp ρ { dst,op:=.build 211 #[(0,x0),(1,x1)],type:=ty,pos,after,guard }).run Tryz.prog w=Vc w (M6 Tryz.prog ρ { dst,op:=.build 211 #[(0,x0),(1,x1)],type:=ty,pos,after,guard } w) (ρ x0) (ρ x1):=by
 generalize h0:ρ x0=v0;generalize h1:ρ x1=v1;unfold Vc;split
 ·rename_i y0 y1 g0 g1
  refine N7 w ρ dst ty pos after guard _ _ _ ?_;simp only[List.map_toArray,List.map_cons,List.map_nil,h0,Cb g0,h1,Cb g1];exact A6l y0 y1 w
 ·rfl
theorem B4j (x0 x1:UInt64) (w:World):(Instr.build 136 #[(0,.int .u64 (J0 x0)),(1,.int .u64 (J0 x1))]).run Tryz.prog w=.ok (J7 [x0,x1,0,0,0]) w:=by kernel_rfl
noncomputable def A7j (w:World) (raw:Result Next) (v0 v1:Value):Result Next:=match Ai v0,Ai v1 with
 | some x0,some x1=>.ok (.value (J7 [x0,x1,0,0,0])) w
 | _,_=>raw
@[go_sem] theorem D9e (w : World) (raw : Result Next) (x0 x1 : UInt64) : A7j w raw (.int .u64 (J0 x0)) (.int .u64 (J0 x1)) = .ok (.value (J7 [x0, x1, 0, 0, 0])) w := by
 unfold A7j;simp only[De]
@[go_sem ↓ high] theorem F0b (w : World) (ρ : Operand → Value) (dst : Option Tmp) (ty : TypeId) (pos : String) (after : Array Edge) (guard : Option (Nat × Bool)) (x0 x1 : Operand) :
 (execOp ρ { dst,op:=.build 136 #[(0,x0),(1,x1)],type:=ty,pos,after,guard }).run Tryz.prog w=A7j w (M6 Tryz.prog ρ { dst,op:=.build 136 #[(0,x0),(1,x1)],type:=ty,pos,after,guard } w) (ρ x0) (ρ x1):=by
 generalize h0:ρ x0=v0;generalize h1:ρ x1=v1;unfold A7j;split
 ·rename_i y0 y1 g0 g1
  refine N7 w ρ dst ty pos after guard _ _ _ ?_;simp only[List.map_toArray,List.map_cons,List.map_nil,h0,h1,Cb g0,Cb g1];exact B4j y0 y1 w
 ·rfl
def ptl (x y z t:List UInt64):List UInt64:=x++(y++(z++t))
theorem B4u {x y z t:List UInt64} (hx:x.length=5) (hy:y.length=5) (hz:z.length=5) (ht:t.length=5):(ptl x y z t).length=20:=by simp[ptl,hx,hy,hz,ht]
noncomputable def E1r (w:World) (raw:Result Next) (a b c d:Value):Result Next:=match Ya a,Ya b,Ya c,Ya d with
 | some x,some y,some z,some t=>if x.length=5∧y.length=5∧z.length=5∧t.length=5 then .ok (.value (J7 (ptl x y z t))) w else raw
 | _,_,_,_=>raw
theorem C0m (w:World):(Ee (Q0 Tryz.prog 140)).run Tryz.prog w=.ok #[(0,5),(5,5),(10,5),(15,5)] w:=by kernel_rfl
theorem D6m (x y z t:List UInt64) (hx:x.length=5) (hy:y.length=5) (hz:z.length=5) (ht:t.length=5) (w:World):(Instr.build 140 #[(0,J7 x),(1,J7 y),(2,J7 z),(3,J7 t)]).run Tryz.prog w=.ok (J7 (ptl x y z t)) w:=by
 have aA:(J7 (J8 20)).cells.toList=C7 (J8 20):=rfl;have h1:=Q9 Hc B7o w (C0m w) #[(0,J7 x),(1,J7 y),(2,J7 z),(3,J7 t)] [(0,C7 x),(5,C7 y),(10,C7 z),(15,C7 t)] (by
  rw[aA];exact ⟨by simp[hx],rfl,by simp[hx],by simp[hy],rfl,by simp[hy],by simp[hz],rfl,by simp[hz],by simp[ht],rfl,by simp[ht],trivial⟩)
 refine h1.trans (congrArg (fun (cs:List Value)=>Result.ok (Value.agg cs.toArray) w) ?_);rw[aA];simp[Fg,Z0,hx,hy,hz,ht,List.take_append,List.drop_append,List.drop_eq_nil_of_le,List.take_of_length_le,ptl,C7]
@[go_sem ↓ high] theorem E6w (w : World) (ρ : Operand → Value) (dst : Option Tmp) (ty : TypeId) (pos : String) (after : Array Edge) (guard : Option (Nat × Bool)) (x y z t : Operand) :
 (execOp ρ { dst,op:=.build 140 #[(0,x),(1,y),(2,z),(3,t)],type:=ty,pos,after,guard }).run Tryz.prog w=E1r w (M6 Tryz.prog ρ { dst,op:=.build 140 #[(0,x),(1,y),(2,z),(3,t)],type:=ty,pos,after,guard } w) (ρ x) (ρ y) (ρ z) (ρ t):=by
 generalize h0:ρ x=a;generalize h1:ρ y=b;generalize h2:ρ z=c;generalize h3:ρ t=d;unfold E1r;split
 ·rename_i x' y' z' t' g0 g1 g2 g3
  replace g0:=Gi g0;replace g1:=Gi g1;replace g2:=Gi g2;replace g3:=Gi g3;split
  ·rename_i h
   refine N7 w ρ dst ty pos after guard _ _ _ ?_;simp only[List.map_toArray,List.map_cons,List.map_nil,h0,h1,h2,h3,g0,g1,g2,g3];exact D6m x' y' z' t' h.1 h.2.1 h.2.2.1 h.2.2.2 w
  ·rfl
 ·rfl
section
variable {w : World} {g : Nat} {tt : TypeId} {x y z t : List UInt64}
end
theorem Bk.row64 {w:World} {g:Nat} {t:TypeId} {l:List UInt64} {n:Nat} (h:Bk w g t (C7 l)) (hl:l.length=n):E5 w ⟨g,0,none⟩ n=some (C7 l):=by have:=h.rows;rwa [Ng,hl]at this
theorem Bk.fresh64 (w:World) (t:TypeId) {l m:List UInt64} (h:l.length=m.length):Bk (C9 (w.alloc (.cells (C7 l).toArray t)) ⟨w.heap.size,0,none⟩ (C7 m)) w.heap.size t (C7 m):=(Bk.new w t (C7 l)).puts (by simp[h])
theorem Xo (W:World) (t:TypeId) (l:List UInt64) (n N:Nat) (hl:l.length=n) (hN:W.heap.size=N):E8 (W.alloc (Obj.cells (C7 l).toArray t)) ⟨N,0,none⟩ n=true:=by
 subst hl hN;exact (Bk.new W t (C7 l)).can (by simp)
def Wy (x y c:UInt64):UInt64:=x+y+c
def Yc (x y c:UInt64):UInt64:=UInt64.ofNat ((x.toNat+y.toNat+c.toNat) / 18446744073709551616)
def B9w (x y b:UInt64):UInt64:=x-y-b
def C0p (x y b:UInt64):UInt64:=if x.toNat<y.toNat+b.toNat then 1 else 0
theorem B1g (x y c:UInt64) (hc:c.toNat≤1) (w:World):(callFunc 136 #[.int .u64 (J0 x),.int .u64 (J0 y),.int .u64 (J0 c)]).run Tryz.prog w=.ok (.value (.tuple #[.int .u64 (J0 (Wy x y c)),.int .u64 (J0 (Yc x y c))])) w:=by
 have hx:=Jn x;have hy:=Jn y;rw[run_callFunc_extern (fn:=Tryz.f136) Tryz.func136 (by kernel_rfl) (by kernel_rfl) (by kernel_rfl) (e:=add64Entry) (by kernel_rfl)];unfold J0;rw[run_add64 _ _ _ (by omega) (by omega) (by omega) (by omega)];have e1:(Wy x y c).toNat=(x.toNat+y.toNat+c.toNat) % 18446744073709551616:=by unfold Wy;rw[UInt64.toNat_add,UInt64.toNat_add];omega
 have e2:(Yc x y c).toNat=(x.toNat+y.toNat+c.toNat) / 18446744073709551616:=by unfold Yc;rw[UInt64.toNat_ofNat'];omega
 simp only[Result.andThen_ok];rw[e1,e2];congr 6<;>omega
theorem B5t (x y b:Nat) (hb:b≤1) (e:Array Value→Sem Value) (he:e=fun args=>do
 let (x, y, b) ← Extern.MathBitsCarry.three "Sub64" args
 pure (Extern.MathBitsCarry.pair ((x+Extern.MathBitsCarry.m64-y-b) % Extern.MathBitsCarry.m64) (if x<y+b then 1 else 0))) (w:World) :
 (e #[.int .u64 x,.int .u64 y,.int .u64 b]).run Tryz.prog w =
  .ok (.tuple #[.int .u64 (((x+18446744073709551616-y-b) % 18446744073709551616:Nat):Int),.int .u64 ((if x<y+b then 1 else 0:Nat):Int)]) w:=by
 subst he;have:b=0∨b=1:=by omega
 rcases this with rfl | rfl<;>rfl
theorem C8h (x y c:UInt64) (hc:c.toNat≤1) (w:World):(callFunc 151 #[.int .u64 (J0 x),.int .u64 (J0 y),.int .u64 (J0 c)]).run Tryz.prog w=.ok (.value (.tuple #[.int .u64 (J0 (B9w x y c)),.int .u64 (J0 (C0p x y c))])) w:=by
 have hx:=Jn x;have hy:=Jn y;rw[run_callFunc_extern (fn:=Tryz.f151) Tryz.func151 (by kernel_rfl) (by kernel_rfl) (by kernel_rfl) (e:=fun args=>do
  let (x, y, b) ← Extern.MathBitsCarry.three "Sub64" args
  pure (Extern.MathBitsCarry.pair ((x+Extern.MathBitsCarry.m64-y-b) % Extern.MathBitsCarry.m64) (if x<y+b then 1 else 0))) (by kernel_rfl)]
 unfold J0;rw[B5t _ _ _ hc _ rfl];have e1:(B9w x y c).toNat=(x.toNat+18446744073709551616-y.toNat-c.toNat) % 18446744073709551616:=by
  unfold B9w;rw[UInt64.toNat_sub,UInt64.toNat_sub];omega
 have e2:(C0p x y c).toNat=(if x.toNat<y.toNat+c.toNat then 1 else 0):=by unfold C0p;split<;>rfl
 simp only[Result.andThen_ok];rw[e1,e2]
attribute [go_sem] B1g C8h
@[go_sem] theorem D9d (x y : UInt64) (w : World) : (callFunc 136 #[.int .u64 (J0 x), .int .u64 (J0 y), .int .u64 0]).run Tryz.prog w = .ok (.value (.tuple #[.int .u64 (J0 (Wy x y 0)), .int .u64 (J0 (Yc x y 0))])) w := B1g x y 0 (by decide) w
@[go_sem] theorem B6u (x y c : UInt64) (hc : c.toNat ≤ 1) : (Yc x y c).toNat ≤ 1 := by
 have hx:=Jn x;have hy:=Jn y;unfold Yc;rw[UInt64.toNat_ofNat'];omega
@[go_sem] theorem E5a (x y : UInt64) : (Yc x y 0).toNat ≤ 1 := B6u x y 0 (by decide)
@[go_sem] theorem D2q (x y c : UInt64) : (C0p x y c).toNat ≤ 1 := by
 unfold C0p;split<;>decide
def B2x (x y:UInt64):UInt64:=UInt64.ofNat (x.toNat*y.toNat / 18446744073709551616)
end
def C7m (x y:UInt64):UInt64:=
 let x0:=x &&& 4294967295
 let x1:=x >>> 32
 let y0:=y &&& 4294967295
 let y1:=y >>> 32
 let w0:=x0*y0
 let t:=x1*y0+w0 >>> 32
 let w1:=(t &&& 4294967295)+x0*y1
 x1*y1+t >>> 32+w1 >>> 32
theorem C8b (a b c d:Nat) (ha:a<4294967296) (hb:b<4294967296) (hc:c<4294967296) (hd:d<4294967296) :
 b*d+(b*c+a*c / 4294967296) / 4294967296+((b*c+a*c / 4294967296) % 4294967296+a*d) / 4294967296=(a+4294967296*b)*(c+4294967296*d) / 18446744073709551616:=by
 have e:(a+4294967296*b)*(c+4294967296*d)=a*c+4294967296*(b*c)+4294967296*(a*d)+18446744073709551616*(b*d):=by
  simp only[Nat.add_mul,Nat.mul_add];have e1:a*(4294967296*d)=4294967296*(a*d):=by rw[Nat.mul_left_comm]
  have e2:4294967296*b*c=4294967296*(b*c):=Nat.mul_assoc _ _ _;have e3:4294967296*b*(4294967296*d)=18446744073709551616*(b*d):=by rw[Nat.mul_assoc,Nat.mul_left_comm b];rw[←Nat.mul_assoc]
  rw[e1,e2,e3];omega
 rw[e];generalize a*c=p;generalize b*c=q;generalize a*d=r;generalize b*d=s;omega
theorem B9i (x y:UInt64):C7m x y=B2x x y:=by
 apply UInt64.toNat_inj.1;have hx:=Jn x;have hy:=Jn y;have aD:x.toNat % 4294967296<4294967296:=Nat.mod_lt _ (by decide);have aE:x.toNat / 4294967296<4294967296:=by omega
 have aF:y.toNat % 4294967296<4294967296:=Nat.mod_lt _ (by decide);have aG:y.toNat / 4294967296<4294967296:=by omega
 have aA:=C8b _ _ _ _ aD aE aF aG;have ex:x.toNat % 4294967296+4294967296*(x.toNat / 4294967296)=x.toNat:=by omega
 have ey:y.toNat % 4294967296+4294967296*(y.toNat / 4294967296)=y.toNat:=by omega
 rw[ex,ey]at aA;have b1:(x.toNat / 4294967296)*(y.toNat % 4294967296)≤4294967295*4294967295:=Nat.mul_le_mul (by omega) (by omega);have b2:(x.toNat % 4294967296)*(y.toNat % 4294967296)≤4294967295*4294967295:=Nat.mul_le_mul (by omega) (by omega);have b3:(x.toNat % 4294967296)*(y.toNat / 4294967296)≤4294967295*4294967295:=Nat.mul_le_mul (by omega) (by omega);have b4:(x.toNat / 4294967296)*(y.toNat / 4294967296)≤4294967295*4294967295:=Nat.mul_le_mul (by omega) (by omega);have aB:∀z:UInt64,(z &&& 4294967295).toNat=z.toNat % 4294967296:=fun z=>by
  rw[UInt64.toNat_and];exact Nat.and_two_pow_sub_one_eq_mod z.toNat 32
 have aC:∀z:UInt64,(z >>> 32).toNat=z.toNat / 4294967296:=fun z=>by
  rw[UInt64.toNat_shiftRight];exact Nat.shiftRight_eq_div_pow z.toNat 32
 unfold C7m B2x;simp only[UInt64.toNat_add,UInt64.toNat_mul,aB,aC,UInt64.toNat_ofNat'];have hk:x.toNat*y.toNat / 18446744073709551616<18446744073709551616:=by
  have:x.toNat*y.toNat<18446744073709551616*18446744073709551616:=Nat.mul_lt_mul'' hx hy;omega
 rw[←aA]at hk ⊢;generalize (x.toNat / 4294967296)*(y.toNat % 4294967296)=q at *;generalize (x.toNat % 4294967296)*(y.toNat % 4294967296)=p at *;generalize (x.toNat % 4294967296)*(y.toNat / 4294967296)=r at *;generalize (x.toNat / 4294967296)*(y.toNat / 4294967296)=s at *;clear aA ex ey aB aC;omega
theorem Wv (x y:UInt64) (w:World):Calls Tryz.prog 138 #[.int .u64 (J0 x),.int .u64 (J0 y)] w fun e w'=>e=.returned (.tuple #[.int .u64 (J0 (B2x x y)),.int .u64 (J0 (x*y))])∧w'=w:=by
 rw[←B9i];go_enter Tryz.func138,Tryz.ntmps138;go_wp2;go_ret2
 exact ⟨rfl,rfl⟩
def Nz (x y:UInt64):List UInt64:=[B2x x y,x*y]
@[simp, go_sem] theorem D4q (x y : UInt64) : (Nz x y).length = 2 := rfl
def Ac (p:List UInt64) (x y:UInt64):List UInt64:=[Wy (B2x x y) (J6 p 0) (Yc (x*y) (J6 p 1) 0),Wy (x*y) (J6 p 1) 0]
@[simp, go_sem] theorem D2o (p : List UInt64) (x y : UInt64) : (Ac p x y).length = 2 := rfl
def over (p:List UInt64):UInt64:=J6 p 0 <<< 13 ||| J6 p 1 >>> (51:UInt64)
def Gc (a:List UInt64):List UInt64:=[(J6 a 0 &&& (2251799813685247:UInt64))+19*(J6 a 4 >>> (51:UInt64)),(J6 a 1 &&& (2251799813685247:UInt64))+J6 a 0 >>> (51:UInt64),(J6 a 2 &&& (2251799813685247:UInt64))+J6 a 1 >>> (51:UInt64),(J6 a 3 &&& (2251799813685247:UInt64))+J6 a 2 >>> (51:UInt64),(J6 a 4 &&& (2251799813685247:UInt64))+J6 a 3 >>> (51:UInt64)]
@[simp, go_sem] theorem C6l (a : List UInt64) : (Gc a).length = 5 := rfl
def D0y (t0 t1 t2 t3 t4:List UInt64):List UInt64:=[(J6 t0 1 &&& (2251799813685247:UInt64))+19*over t4,(J6 t1 1 &&& (2251799813685247:UInt64))+over t0,(J6 t2 1 &&& (2251799813685247:UInt64))+over t1,(J6 t3 1 &&& (2251799813685247:UInt64))+over t2,(J6 t4 1 &&& (2251799813685247:UInt64))+over t3]
@[simp, go_sem] theorem D3u (t0 t1 t2 t3 t4 : List UInt64) : (D0y t0 t1 t2 t3 t4).length = 5 := rfl
def Ll (t0 t1 t2 t3 t4:List UInt64):List UInt64:=Gc (D0y t0 t1 t2 t3 t4)
@[simp, go_sem] theorem C2p (t0 t1 t2 t3 t4 : List UInt64) : (Ll t0 t1 t2 t3 t4).length = 5 := rfl
theorem A9o (x y:UInt64) (w:World):Calls Tryz.prog 131 #[.int .u64 (J0 x),.int .u64 (J0 y)] w fun e w'=>e=.returned (J7 (Nz x y))∧Below w.heap.size w w':=by
 obtain⟨W0,aA⟩:∃z,z=w.alloc (Obj.cells (C7 (J8 2)).toArray 211):=⟨_,rfl⟩;have B0:Below w.heap.size w W0:=by rw[aA];exact (Below.refl _ _).alloc (Nat.le_refl _) _
 have R0:Bk W0 w.heap.size 211 (C7 (J8 2)):=by rw[aA];exact Bk.new w _ _
 have aB:E8 W0 ⟨w.heap.size,0,none⟩ 2=true:=R0.can (by simp);go_enter Tryz.func131,Tryz.ntmps131;go_wp2_with fail;rw[←aA];clear aA;refine (Wv x y W0).mono ?_;rintro e w1 ⟨rfl,rfl⟩;go_wp2_with fail;refine bodyPost_ret (E9 rfl _ _ _ _ _ _ rfl (R0.puts (vs:=C7 (Nz x y)) (by simp)) Wh rfl (by simp[Yt])) rfl ⟨rfl,C1 B0 (Nat.le_refl _) _⟩
theorem C4l (p:List UInt64) (hp:p.length=2) (x y:UInt64) (w:World):Calls Tryz.prog 132 #[J7 p,.int .u64 (J0 x),.int .u64 (J0 y)] w fun e w'=>e=.returned (J7 (Ac p x y))∧Below w.heap.size w w':=by
 obtain⟨W0,aA⟩:∃z,z=(w.alloc (Obj.cells (C7 p).toArray 211)).alloc (Obj.cells (C7 (J8 2)).toArray 211):=⟨_,rfl⟩;have B0:Below w.heap.size w W0:=by rw[aA];exact ((Below.refl _ _).alloc (Nat.le_refl _) _).alloc (by simp) _
 have P0:Bk W0 w.heap.size 211 (C7 p):=by rw[aA];exact (Bk.new w _ _).alloc _
 have R0:Bk W0 (w.heap.size+1) 211 (C7 (J8 2)):=by rw[aA];simpa using Bk.new (w.alloc (Obj.cells (C7 p).toArray 211)) 211 (C7 (J8 2))
 have aB:E8 W0 ⟨w.heap.size+1,0,none⟩ 2=true:=R0.can (by simp);have p0:=P0.at_ (M2 (l:=p) (i:=0) (by omega));have p1:=P0.at_ (M2 (l:=p) (i:=1) (by omega));go_enter Tryz.func132,Tryz.ntmps132;go_wp2_with fail;rw[←aA];clear aA;refine (Wv x y W0).mono ?_;rintro e w1 ⟨rfl,rfl⟩;go_wp2_with fail;refine bodyPost_ret (E9 rfl _ _ _ _ _ _ rfl (R0.puts (vs:=C7 (Ac p x y)) (by simp)) Wh rfl (by simp[Yt])) rfl ⟨rfl,C1 B0 (by simp) _⟩
theorem C8e (p:List UInt64) (hp:p.length=2) (w:World):Calls Tryz.prog 149 #[J7 p] w fun e w'=>e=.returned (.int .u64 (J0 (over p)))∧Below w.heap.size w w':=by
 obtain⟨W0,aA⟩:∃z,z=w.alloc (Obj.cells (C7 p).toArray 211):=⟨_,rfl⟩;have B0:Below w.heap.size w W0:=by rw[aA];exact (Below.refl _ _).alloc (Nat.le_refl _) _
 have P0:Bk W0 w.heap.size 211 (C7 p):=by rw[aA];exact Bk.new w _ _
 have p0:=P0.at_ (M2 (l:=p) (i:=0) (by omega));have p1:=P0.at_ (M2 (l:=p) (i:=1) (by omega));rw[aA]at p0 p1;go_enter Tryz.func149,Tryz.ntmps149;go_wp2_with fail;rw[←aA];clear aA;go_ret;exact ⟨rfl,B0⟩
end Go.Proofs.YtlegpkdighoflaaGreat
