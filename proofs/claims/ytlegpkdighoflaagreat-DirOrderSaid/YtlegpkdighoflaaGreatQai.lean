/- A part of the proof of DirOrder. -/
import Derived.Laws.Externs
import Derived.Test.YtlegpkdighoflaaGreatQah
set_option linter.unusedVariables false
set_option linter.unusedSimpArgs false
set_option maxRecDepth 100000
set_option maxHeartbeats 40000000
namespace Go.Proofs.YtlegpkdighoflaaGreat
open Go Go.RowKit Sh
abbrev RL' (t n : TypeId) : Prop := ∀ (w : World) (ρ : Operand → Value) (dst : Option Tmp) (ty : TypeId) (pos : String) (after : Array Edge) (guard : Option (Nat × Bool)) (x : Operand),
    (execOp ρ { dst, op := .load t x, type := ty, pos, after, guard }).run Tryz.prog w = Kn n w (N8 Tryz.prog ρ { dst, op := .load t x, type := ty, pos, after, guard } w) (ρ x)
theorem LL' {t n : TypeId} {d : TypeDesc} (hu : Tryz.prog.underlying t = some d) (hi : (Tryz.prog.info? t).map (·.size) = some n) (hn : 0 < n := by decide) (hd : d.isRow = true := by rfl) : RL' t n :=
  fun w ρ dst ty pos after guard x => Hc w ρ dst ty pos after guard t n d x hn hu hd hi
abbrev RS' (t n : TypeId) : Prop := ∀ (w : World) (ρ : Operand → Value) (dst : Option Tmp) (ty : TypeId) (pos : String) (after : Array Edge) (guard : Option (Nat × Bool)) (x y : Operand),
    (execOp ρ { dst, op := .store t x y, type := ty, pos, after, guard }).run Tryz.prog w = Cr n w (N8 Tryz.prog ρ { dst, op := .store t x y, type := ty, pos, after, guard } w) (ρ x) (ρ y)
theorem SS' {t n : TypeId} (hi : (Tryz.prog.info? t).map (·.size) = some n) (hn : 0 < n := by decide) : RS' t n :=
  fun w ρ dst ty pos after guard x y => Fv w ρ dst ty pos after guard t n x y hn hi
abbrev RA' (t : TypeId) (c : Array Value) : Prop := ∀ (w : World) (ρ : Operand → Value) (dst : Option Tmp) (ty : TypeId) (pos : String) (after : Array Edge) (guard : Option (Nat × Bool)),
    (execOp ρ { dst, op := .alloc t, type := ty, pos, after, guard }).run Tryz.prog w = .ok (.value (.pointer (some ⟨w.heap.size, 0, none⟩))) (w.alloc (.cells c t))
abbrev RB' (t : TypeId) : Prop := ∀ (w : World) (ρ : Operand → Value) (dst : Option Tmp) (ty : TypeId) (pos : String) (after : Array Edge) (guard : Option (Nat × Bool)) (x : Operand),
    (execOp ρ { dst, op := .box t x, type := ty, pos, after, guard }).run Tryz.prog w = Rs t w (N8 Tryz.prog ρ { dst, op := .box t x, type := ty, pos, after, guard } w) (ρ x)
theorem BX' (t : TypeId) : RB' t := fun w ρ dst ty pos after guard x => Ww w ρ dst ty pos after guard t x
section
theorem B8r (x y:UInt64):Op.intArith .sub .u64 (J0 x) (J0 y)=pure (.int .u64 (J0 (x-y))):=by
 unfold Op.intArith J0;have hx:=Jb x;have hy:=Jb y;have e:IntKind.u64.wrap ((x.toNat:Int)-(y.toNat:Int))=(((18446744073709551616-y.toNat+x.toNat) % 18446744073709551616:Nat):Int):=by
  simp only[IntKind.wrap,IntKind.bits,IntKind.signed,Bool.false_and,Bool.false_eq_true,if_false];omega
 rw[e,UInt64.toNat_sub]
attribute [go_sem ↓ high] B8r
noncomputable def Vj (v:Value):Option (List UInt64):=open Classical in if h:∃l,v=H7 l then some h.choose else none
theorem A8o {x y:UInt64} (h:Sz x=Sz y):x=y:=by
 unfold Sz at h;injection h with _ h;exact A1n h
theorem B9w {xs ys:List UInt64} (h:H7 xs=H7 ys):xs=ys:=by
 unfold H7 C9 at h;injection h with h;have h':(xs.map Sz)=(ys.map Sz):=by simpa using congrArg Array.toList h
 exact (List.map_inj_right fun _ _=>A8o).1 h'
theorem Ov (l:List UInt64):Vj (H7 l)=some l:=by
 have h:∃m,H7 l=H7 m:=⟨l,rfl⟩;unfold Vj;rw[dif_pos h];exact congrArg some (B9w h.choose_spec).symm
theorem Gf {v:Value} {l:List UInt64} (h:Vj v=some l):v=H7 l:=by
 unfold Vj at h;split at h
 ·rename_i hh
  injection h with h;rw[←h];exact hh.choose_spec
 ·cases h
@[go_sem] theorem C9d (t : TypeId) (w : World) (raw : Result Next) (l : List UInt64) : Rs t w raw (H7 l) = .ok (.value (.pointer (some ⟨w.heap.size, 0, none⟩))) (w.alloc (.cells (C9 l).toArray t)) := rfl
noncomputable def Tv (n:Nat) (w:World) (raw:Result Next) (v:Value):Result Next:=match Vj v with
 | some l=>if l.length=n then .ok (.value (H7 l)) w else raw
 | none=>raw
@[go_sem] theorem C9j (n : Nat) (w : World) (raw : Result Next) (l : List UInt64) (h : l.length = n) : Tv n w raw (H7 l) = .ok (.value (H7 l)) w := by
 unfold Tv;rw[Ov];simp[h]
noncomputable def Aq (v:Value):Option UInt64:=open Classical in if h:∃x,v=Sz x then some h.choose else none
theorem Df (x:UInt64):Aq (.int .u64 (J0 x))=some x:=by
 have h:∃y,Sz x=Sz y:=⟨x,rfl⟩;show Aq (Sz x)=_;unfold Aq;rw[dif_pos h];exact congrArg some (A8o h.choose_spec).symm
theorem Ce {v:Value} {x:UInt64} (h:Aq v=some x):v=.int .u64 (J0 x):=by
 unfold Aq at h;split at h
 ·rename_i hh
  injection h with h;rw[←h];exact hh.choose_spec
 ·cases h
@[go_sem ↓ high] theorem D8d (x : UInt64) (k : IntKind) : Op.shift .shr .u64 (J0 x) k 4 = pure (.int .u64 (J0 (x >>> 4))) := Ch x k 4 (by decide)
@[go_sem ↓ high] theorem D7z (x : UInt64) (k : IntKind) : Op.shift .shl .u64 (J0 x) k 4 = pure (.int .u64 (J0 (x <<< 4))) := Bw x k 4 (by decide)
@[go_sem ↓ high] theorem D8g (x : UInt64) (k : IntKind) : Op.shift .shr .u64 (J0 x) k 5 = pure (.int .u64 (J0 (x >>> 5))) := Ch x k 5 (by decide)
@[go_sem ↓ high] theorem D8n (x : UInt64) (k : IntKind) : Op.shift .shl .u64 (J0 x) k 5 = pure (.int .u64 (J0 (x <<< 5))) := Bw x k 5 (by decide)
@[go_sem ↓ high] theorem D1w (x : UInt64) (k : IntKind) : Op.shift .shr .u64 (J0 x) k 12 = pure (.int .u64 (J0 (x >>> 12))) := Ch x k 12 (by decide)
@[go_sem ↓ high] theorem D5s (x : UInt64) (k : IntKind) : Op.shift .shl .u64 (J0 x) k 12 = pure (.int .u64 (J0 (x <<< 12))) := Bw x k 12 (by decide)
@[go_sem ↓ high] theorem D3k (x : UInt64) (k : IntKind) : Op.shift .shr .u64 (J0 x) k 13 = pure (.int .u64 (J0 (x >>> 13))) := Ch x k 13 (by decide)
@[go_sem ↓ high] theorem D7f (x : UInt64) (k : IntKind) : Op.shift .shl .u64 (J0 x) k 13 = pure (.int .u64 (J0 (x <<< 13))) := Bw x k 13 (by decide)
@[go_sem ↓ high] theorem D1k (x : UInt64) (k : IntKind) : Op.shift .shr .u64 (J0 x) k 25 = pure (.int .u64 (J0 (x >>> 25))) := Ch x k 25 (by decide)
@[go_sem ↓ high] theorem D3j (x : UInt64) (k : IntKind) : Op.shift .shl .u64 (J0 x) k 25 = pure (.int .u64 (J0 (x <<< 25))) := Bw x k 25 (by decide)
@[go_sem ↓ high] theorem D2w (x : UInt64) (k : IntKind) : Op.shift .shr .u64 (J0 x) k 26 = pure (.int .u64 (J0 (x >>> 26))) := Ch x k 26 (by decide)
@[go_sem ↓ high] theorem D6v (x : UInt64) (k : IntKind) : Op.shift .shl .u64 (J0 x) k 26 = pure (.int .u64 (J0 (x <<< 26))) := Bw x k 26 (by decide)
@[go_sem ↓ high] theorem D4y (x : UInt64) (k : IntKind) : Op.shift .shr .u64 (J0 x) k 38 = pure (.int .u64 (J0 (x >>> 38))) := Ch x k 38 (by decide)
@[go_sem ↓ high] theorem D3l (x : UInt64) (k : IntKind) : Op.shift .shl .u64 (J0 x) k 38 = pure (.int .u64 (J0 (x <<< 38))) := Bw x k 38 (by decide)
@[go_sem ↓ high] theorem D4g (x : UInt64) (k : IntKind) : Op.shift .shr .u64 (J0 x) k 39 = pure (.int .u64 (J0 (x >>> 39))) := Ch x k 39 (by decide)
@[go_sem ↓ high] theorem D2p (x : UInt64) (k : IntKind) : Op.shift .shl .u64 (J0 x) k 39 = pure (.int .u64 (J0 (x <<< 39))) := Bw x k 39 (by decide)
@[go_sem ↓ high] theorem D1n (x : UInt64) (k : IntKind) : Op.shift .shr .u64 (J0 x) k 51 = pure (.int .u64 (J0 (x >>> 51))) := Ch x k 51 (by decide)
@[go_sem ↓ high] theorem D3q (x : UInt64) (k : IntKind) : Op.shift .shl .u64 (J0 x) k 51 = pure (.int .u64 (J0 (x <<< 51))) := Bw x k 51 (by decide)
@[go_sem ↓ high] theorem D6c (x : UInt64) (k : IntKind) : Op.shift .shr .u64 (J0 x) k 60 = pure (.int .u64 (J0 (x >>> 60))) := Ch x k 60 (by decide)
@[go_sem ↓ high] theorem D3o (x : UInt64) (k : IntKind) : Op.shift .shl .u64 (J0 x) k 60 = pure (.int .u64 (J0 (x <<< 60))) := Bw x k 60 (by decide)
@[go_sem ↓ high] theorem D7a (x : UInt64) (k : IntKind) : Op.shift .shr .u64 (J0 x) k 63 = pure (.int .u64 (J0 (x >>> 63))) := Ch x k 63 (by decide)
@[go_sem ↓ high] theorem D5g (x : UInt64) (k : IntKind) : Op.shift .shl .u64 (J0 x) k 63 = pure (.int .u64 (J0 (x <<< 63))) := Bw x k 63 (by decide)
@[go_sem ↓ high] theorem D8k (x : UInt64) : Op.intBits .and .u64 (J0 x) 1 = pure (.int .u64 (J0 (x &&& 1))) := B0o x 1
@[go_sem ↓ high] theorem D0q (x : UInt64) : Op.intBits .and .u64 (J0 x) 15 = pure (.int .u64 (J0 (x &&& 15))) := B0o x 15
@[go_sem ↓ high] theorem B1x (x : UInt64) : Op.intBits .and .u64 (J0 x) 4294967295 = pure (.int .u64 (J0 (x &&& 4294967295))) := B0o x 4294967295
@[go_sem ↓ high] theorem A1k (x : UInt64) : Op.intBits .and .u64 (J0 x) 2251799813685247 = pure (.int .u64 (J0 (x &&& 2251799813685247))) := B0o x 2251799813685247
@[go_sem ↓ high] theorem E0s (x : UInt8) : Op.intBits .and .u8 (n8 x) 1 = pure (.int .u8 (n8 (x &&& 1))) := C0q x 1
@[go_sem ↓ high] theorem D8e (x : UInt8) : Op.intBits .and .u8 (n8 x) 15 = pure (.int .u8 (n8 (x &&& 15))) := C0q x 15
@[go_sem ↓ high] theorem D6o (x : UInt8) : Op.intBits .and .u8 (n8 x) 127 = pure (.int .u8 (n8 (x &&& 127))) := C0q x 127
@[go_sem ↓ high] theorem D4l (x : UInt8) : Op.intBits .and .u8 (n8 x) 248 = pure (.int .u8 (n8 (x &&& 248))) := C0q x 248
@[go_sem ↓ high] theorem E0u (x : UInt8) : Op.intBits .or .u8 (n8 x) 64 = pure (.int .u8 (n8 (x ||| 64))) := or8 x 64
@[go_sem ↓ high] theorem D8z (x : UInt8) : Op.intBits .or .u8 (n8 x) 128 = pure (.int .u8 (n8 (x ||| 128))) := or8 x 128
@[go_sem ↓ high] theorem D7v (x : UInt64) : Op.intArith .mul .u64 2 (J0 x) = pure (.int .u64 (J0 (2 * x))) := A5n 2 x
@[go_sem ↓ high] theorem D6d (x : UInt64) : Op.intArith .mul .u64 19 (J0 x) = pure (.int .u64 (J0 (19 * x))) := A5n 19 x
@[go_sem ↓ high] theorem D0n (x : UInt64) : Op.intArith .add .u64 (J0 x) 19 = pure (.int .u64 (J0 (x + 19))) := add64 x 19
@[go_sem ↓ high] theorem D1r (x : UInt64) : Op.intArith .sub .u64 (J0 x) 72 = pure (.int .u64 (J0 (x - 72))) := B8r x 72
@[go_sem ↓ high] theorem D4v (x : UInt64) : Op.intArith .sub .u64 9007199254740988 (J0 x) = pure (.int .u64 (J0 (9007199254740988 - x))) := B8r 9007199254740988 x
theorem B0p:(Tryz.prog.info? 136).map (·.size)=some 5:=by kernel_rfl
theorem B9q:((Tryz.prog.info? 136).bind (·.zero))=some (H7 (I3 5)):=by kernel_rfl
section
variable (w : World) (ρ : Operand → Value) (dst : Option Tmp) (ty : TypeId) (pos : String) (after : Array Edge) (guard : Option (Nat × Bool))
@[go_sem ↓ high] theorem D7i:RL' 136 5:=LL' Tryz.underlying136 B0p
@[go_sem ↓ high] theorem D5k:RS' 136 5:=SS' B0p
@[go_sem ↓ high] theorem D3z:RA' 136 (C9 (I3 5)).toArray:=fun w ρ dst ty pos after guard=>Q0 w ρ dst ty pos after guard 136 (H7 (I3 5)) B9q
@[go_sem ↓ high] theorem E0o:RB' 136:=BX' _
end
theorem Rt:(Tryz.prog.info? 182).map (·.size)=some 4:=by kernel_rfl
theorem C0f:((Tryz.prog.info? 182).bind (·.zero))=some (H7 (I3 4)):=by kernel_rfl
section
variable (w : World) (ρ : Operand → Value) (dst : Option Tmp) (ty : TypeId) (pos : String) (after : Array Edge) (guard : Option (Nat × Bool))
@[go_sem ↓ high] theorem D9e:RL' 182 4:=LL' Tryz.underlying182 Rt
@[go_sem ↓ high] theorem D5a:RS' 182 4:=SS' Rt
@[go_sem ↓ high] theorem D3t:RA' 182 (C9 (I3 4)).toArray:=fun w ρ dst ty pos after guard=>Q0 w ρ dst ty pos after guard 182 (H7 (I3 4)) C0f
@[go_sem ↓ high] theorem E1z:RB' 182:=BX' _
end
theorem X8:(Tryz.prog.info? 138).map (·.size)=some 5:=by kernel_rfl
theorem A9x:((Tryz.prog.info? 138).bind (·.zero))=some (H7 (I3 5)):=by kernel_rfl
theorem P4:Tryz.prog.underlying 138=some (.struct (U1 Tryz.prog 138)):=by kernel_rfl
section
variable (w : World) (ρ : Operand → Value) (dst : Option Tmp) (ty : TypeId) (pos : String) (after : Array Edge) (guard : Option (Nat × Bool))
@[go_sem ↓ high] theorem D8j:RL' 138 5:=LL' P4 X8
@[go_sem ↓ high] theorem D3h:RS' 138 5:=SS' X8
@[go_sem ↓ high] theorem Z4:RA' 138 (C9 (I3 5)).toArray:=fun w ρ dst ty pos after guard=>Q0 w ρ dst ty pos after guard 138 (H7 (I3 5)) A9x
@[go_sem ↓ high] theorem E1w:RB' 138:=BX' _
end
theorem Vw:(Tryz.prog.info? 211).map (·.size)=some 2:=by kernel_rfl
theorem C1r:((Tryz.prog.info? 211).bind (·.zero))=some (H7 (I3 2)):=by kernel_rfl
theorem Tb:Tryz.prog.underlying 211=some (.struct (U1 Tryz.prog 211)):=by kernel_rfl
section
variable (w : World) (ρ : Operand → Value) (dst : Option Tmp) (ty : TypeId) (pos : String) (after : Array Edge) (guard : Option (Nat × Bool))
@[go_sem ↓ high] theorem D8u:RL' 211 2:=LL' Tb Vw
@[go_sem ↓ high] theorem D1h:RS' 211 2:=SS' Vw
@[go_sem ↓ high] theorem D3s:RA' 211 (C9 (I3 2)).toArray:=fun w ρ dst ty pos after guard=>Q0 w ρ dst ty pos after guard 211 (H7 (I3 2)) C1r
@[go_sem ↓ high] theorem E0j:RB' 211:=BX' _
end
theorem Hh:(Tryz.prog.info? 184).map (·.size)=some 4:=by kernel_rfl
theorem A9q:((Tryz.prog.info? 184).bind (·.zero))=some (H7 (I3 4)):=by kernel_rfl
theorem Eb:Tryz.prog.underlying 184=some (.struct (U1 Tryz.prog 184)):=by kernel_rfl
section
variable (w : World) (ρ : Operand → Value) (dst : Option Tmp) (ty : TypeId) (pos : String) (after : Array Edge) (guard : Option (Nat × Bool))
@[go_sem ↓ high] theorem D8s:RL' 184 4:=LL' Eb Hh
@[go_sem ↓ high] theorem D4o:RS' 184 4:=SS' Hh
@[go_sem ↓ high] theorem A4q:RA' 184 (C9 (I3 4)).toArray:=fun w ρ dst ty pos after guard=>Q0 w ρ dst ty pos after guard 184 (H7 (I3 4)) A9q
@[go_sem ↓ high] theorem E0e:RB' 184:=BX' _
end
theorem Bt:(Tryz.prog.info? 140).map (·.size)=some 20:=by kernel_rfl
theorem A9t:((Tryz.prog.info? 140).bind (·.zero))=some (H7 (I3 20)):=by kernel_rfl
theorem X3:Tryz.prog.underlying 140=some (.struct (U1 Tryz.prog 140)):=by kernel_rfl
section
variable (w : World) (ρ : Operand → Value) (dst : Option Tmp) (ty : TypeId) (pos : String) (after : Array Edge) (guard : Option (Nat × Bool))
@[go_sem ↓ high] theorem D7t:RL' 140 20:=LL' X3 Bt
@[go_sem ↓ high] theorem D2h:RS' 140 20:=SS' Bt
@[go_sem ↓ high] theorem D1g:RA' 140 (C9 (I3 20)).toArray:=fun w ρ dst ty pos after guard=>Q0 w ρ dst ty pos after guard 140 (H7 (I3 20)) A9t
@[go_sem ↓ high] theorem E0c:RB' 140:=BX' _
end
theorem Wk:(Tryz.prog.info? 177).map (·.size)=some 320:=by kernel_rfl
theorem B7y:((Tryz.prog.info? 177).bind (·.zero))=some (H7 (I3 320)):=by kernel_rfl
section
variable (w : World) (ρ : Operand → Value) (dst : Option Tmp) (ty : TypeId) (pos : String) (after : Array Edge) (guard : Option (Nat × Bool))
@[go_sem ↓ high] theorem D7c:RL' 177 320:=LL' Tryz.underlying177 Wk
@[go_sem ↓ high] theorem D0d:RS' 177 320:=SS' Wk
@[go_sem ↓ high] theorem A0f:RA' 177 (C9 (I3 320)).toArray:=fun w ρ dst ty pos after guard=>Q0 w ρ dst ty pos after guard 177 (H7 (I3 320)) B7y
@[go_sem ↓ high] theorem D7s:RB' 177:=BX' _
end
theorem Wo:(Tryz.prog.info? 205).map (·.size)=some 640:=by kernel_rfl
theorem B8k:((Tryz.prog.info? 205).bind (·.zero))=some (H7 (I3 640)):=by kernel_rfl
section
variable (w : World) (ρ : Operand → Value) (dst : Option Tmp) (ty : TypeId) (pos : String) (after : Array Edge) (guard : Option (Nat × Bool))
@[go_sem ↓ high] theorem D3b:RL' 205 640:=LL' Tryz.underlying205 Wo
@[go_sem ↓ high] theorem D0l:RS' 205 640:=SS' Wo
@[go_sem ↓ high] theorem C8w:RA' 205 (C9 (I3 640)).toArray:=fun w ρ dst ty pos after guard=>Q0 w ρ dst ty pos after guard 205 (H7 (I3 640)) B8k
@[go_sem ↓ high] theorem D7w:RB' 205:=BX' _
end
theorem A3n (w:World):(Instr.build 136 #[]).run Tryz.prog w=.ok (H7 (I3 5)) w:=by kernel_rfl
@[go_sem ↓ high] theorem C9h (w : World) (ρ : Operand → Value) (dst : Option Tmp) (ty : TypeId) (pos : String) (after : Array Edge) (guard : Option (Nat × Bool)) :
 (execOp ρ { dst,op:=.build 136 #[],type:=ty,pos,after,guard }).run Tryz.prog w=.ok (.value (H7 (I3 5))) w:=
 P5 w ρ dst ty pos after guard _ _ _ (by simp only[List.map_toArray,List.map_nil];exact A3n w)
theorem A2w (w:World):(Instr.build 182 #[]).run Tryz.prog w=.ok (H7 (I3 4)) w:=by kernel_rfl
@[go_sem ↓ high] theorem C8j (w : World) (ρ : Operand → Value) (dst : Option Tmp) (ty : TypeId) (pos : String) (after : Array Edge) (guard : Option (Nat × Bool)) :
 (execOp ρ { dst,op:=.build 182 #[],type:=ty,pos,after,guard }).run Tryz.prog w=.ok (.value (H7 (I3 4))) w:=
 P5 w ρ dst ty pos after guard _ _ _ (by simp only[List.map_toArray,List.map_nil];exact A2w w)
theorem A1p (w:World):(Instr.build 155 #[]).run Tryz.prog w=.ok (H7 (I3 8)) w:=by kernel_rfl
@[go_sem ↓ high] theorem C5z (w : World) (ρ : Operand → Value) (dst : Option Tmp) (ty : TypeId) (pos : String) (after : Array Edge) (guard : Option (Nat × Bool)) :
 (execOp ρ { dst,op:=.build 155 #[],type:=ty,pos,after,guard }).run Tryz.prog w=.ok (.value (H7 (I3 8))) w:=
 P5 w ρ dst ty pos after guard _ _ _ (by simp only[List.map_toArray,List.map_nil];exact A1p w)
theorem A5t (w:World):(Instr.build 138 #[]).run Tryz.prog w=.ok (H7 (I3 5)) w:=by kernel_rfl
@[go_sem ↓ high] theorem C8z (w : World) (ρ : Operand → Value) (dst : Option Tmp) (ty : TypeId) (pos : String) (after : Array Edge) (guard : Option (Nat × Bool)) :
 (execOp ρ { dst,op:=.build 138 #[],type:=ty,pos,after,guard }).run Tryz.prog w=.ok (.value (H7 (I3 5))) w:=
 P5 w ρ dst ty pos after guard _ _ _ (by simp only[List.map_toArray,List.map_nil];exact A5t w)
theorem A3l (w:World):(Instr.build 184 #[]).run Tryz.prog w=.ok (H7 (I3 4)) w:=by kernel_rfl
@[go_sem ↓ high] theorem C9a (w : World) (ρ : Operand → Value) (dst : Option Tmp) (ty : TypeId) (pos : String) (after : Array Edge) (guard : Option (Nat × Bool)) :
 (execOp ρ { dst,op:=.build 184 #[],type:=ty,pos,after,guard }).run Tryz.prog w=.ok (.value (H7 (I3 4))) w:=
 P5 w ρ dst ty pos after guard _ _ _ (by simp only[List.map_toArray,List.map_nil];exact A3l w)
theorem A4f (w:World):(Instr.build 140 #[]).run Tryz.prog w=.ok (H7 (I3 20)) w:=by kernel_rfl
@[go_sem ↓ high] theorem C9u (w : World) (ρ : Operand → Value) (dst : Option Tmp) (ty : TypeId) (pos : String) (after : Array Edge) (guard : Option (Nat × Bool)) :
 (execOp ρ { dst,op:=.build 140 #[],type:=ty,pos,after,guard }).run Tryz.prog w=.ok (.value (H7 (I3 20))) w:=
 P5 w ρ dst ty pos after guard _ _ _ (by simp only[List.map_toArray,List.map_nil];exact A4f w)
theorem B3i (w:World):(Ep (U1 Tryz.prog 138)).run Tryz.prog w=.ok #[(0,5)] w:=by kernel_rfl
theorem A5d (l:List UInt64) (h:l.length=5) (w:World):(Instr.build 138 #[(0,H7 l)]).run Tryz.prog w=.ok (H7 l) w:=by
 have hz:(H7 (I3 5)).cells.toList=C9 (I3 5):=rfl;have h1:=U5 P4 A9x w (B3i w) #[(0,H7 l)] [(0,C9 l)] (by
  rw[hz];exact ⟨by simp[h],rfl,by simp[h],trivial⟩)
 refine h1.trans (congrArg (fun (cs:List Value)=>Result.ok (Value.agg cs.toArray) w) ?_);rw[hz];simp[Fs,Af,h,List.drop_eq_nil_of_le,C9]
@[go_sem ↓ high] theorem D1y (w : World) (ρ : Operand → Value) (dst : Option Tmp) (ty : TypeId) (pos : String) (after : Array Edge) (guard : Option (Nat × Bool)) (x : Operand) :
 (execOp ρ { dst,op:=.build 138 #[(0,x)],type:=ty,pos,after,guard }).run Tryz.prog w=Tv 5 w (N8 Tryz.prog ρ { dst,op:=.build 138 #[(0,x)],type:=ty,pos,after,guard } w) (ρ x):=by
 generalize hx:ρ x=a;unfold Tv;split
 ·rename_i l hl
  replace hl:=Gf hl;split
  ·rename_i h
   refine P5 w ρ dst ty pos after guard _ _ _ ?_;simp only[List.map_toArray,List.map_cons,List.map_nil,hx,hl];exact A5d l h w
  ·rfl
 ·rfl
theorem B1l (w:World):(Ep (U1 Tryz.prog 184)).run Tryz.prog w=.ok #[(0,4)] w:=by kernel_rfl
theorem A5h (l:List UInt64) (h:l.length=4) (w:World):(Instr.build 184 #[(0,H7 l)]).run Tryz.prog w=.ok (H7 l) w:=by
 have hz:(H7 (I3 4)).cells.toList=C9 (I3 4):=rfl;have h1:=U5 Eb A9q w (B1l w) #[(0,H7 l)] [(0,C9 l)] (by
  rw[hz];exact ⟨by simp[h],rfl,by simp[h],trivial⟩)
 refine h1.trans (congrArg (fun (cs:List Value)=>Result.ok (Value.agg cs.toArray) w) ?_);rw[hz];simp[Fs,Af,h,List.drop_eq_nil_of_le,C9]
@[go_sem ↓ high] theorem D4j (w : World) (ρ : Operand → Value) (dst : Option Tmp) (ty : TypeId) (pos : String) (after : Array Edge) (guard : Option (Nat × Bool)) (x : Operand) :
 (execOp ρ { dst,op:=.build 184 #[(0,x)],type:=ty,pos,after,guard }).run Tryz.prog w=Tv 4 w (N8 Tryz.prog ρ { dst,op:=.build 184 #[(0,x)],type:=ty,pos,after,guard } w) (ρ x):=by
 generalize hx:ρ x=a;unfold Tv;split
 ·rename_i l hl
  replace hl:=Gf hl;split
  ·rename_i h
   refine P5 w ρ dst ty pos after guard _ _ _ ?_;simp only[List.map_toArray,List.map_cons,List.map_nil,hx,hl];exact A5h l h w
  ·rfl
 ·rfl
theorem A2h (x0 x1 x2 x3 x4:UInt64) (w:World):(Instr.build 136 #[(0,.int .u64 (J0 x0)),(1,.int .u64 (J0 x1)),(2,.int .u64 (J0 x2)),(3,.int .u64 (J0 x3)),(4,.int .u64 (J0 x4))]).run Tryz.prog w=.ok (H7 [x0,x1,x2,x3,x4]) w:=by kernel_rfl
noncomputable def Ll (w:World) (raw:Result Next) (v0 v1 v2 v3 v4:Value):Result Next:=match Aq v0,Aq v1,Aq v2,Aq v3,Aq v4 with
 | some x0,some x1,some x2,some x3,some x4=>.ok (.value (H7 [x0,x1,x2,x3,x4])) w
 | _,_,_,_,_=>raw
@[go_sem] theorem C4x (w : World) (raw : Result Next) (x0 x1 x2 x3 x4 : UInt64) : Ll w raw (.int .u64 (J0 x0)) (.int .u64 (J0 x1)) (.int .u64 (J0 x2)) (.int .u64 (J0 x3)) (.int .u64 (J0 x4)) = .ok (.value (H7 [x0, x1, x2, x3, x4])) w := by
 unfold Ll;simp only[Df]
@[go_sem ↓ high] theorem D0e (w : World) (ρ : Operand → Value) (dst : Option Tmp) (ty : TypeId) (pos : String) (after : Array Edge) (guard : Option (Nat × Bool)) (x0 x1 x2 x3 x4 : Operand) :
 (execOp ρ { dst,op:=.build 136 #[(0,x0),(1,x1),(2,x2),(3,x3),(4,x4)],type:=ty,pos,after,guard }).run Tryz.prog w=Ll w (N8 Tryz.prog ρ { dst,op:=.build 136 #[(0,x0),(1,x1),(2,x2),(3,x3),(4,x4)],type:=ty,pos,after,guard } w) (ρ x0) (ρ x1) (ρ x2) (ρ x3) (ρ x4):=by
 generalize h0:ρ x0=v0;generalize h1:ρ x1=v1;generalize h2:ρ x2=v2;generalize h3:ρ x3=v3;generalize h4:ρ x4=v4;unfold Ll;split
 ·rename_i y0 y1 y2 y3 y4 g0 g1 g2 g3 g4
  refine P5 w ρ dst ty pos after guard _ _ _ ?_;simp only[List.map_toArray,List.map_cons,List.map_nil,h0,Ce g0,h1,Ce g1,h2,Ce g2,h3,Ce g3,h4,Ce g4];exact A2h y0 y1 y2 y3 y4 w
 ·rfl
theorem A1f (x0 x1 x2 x3:UInt64) (w:World):(Instr.build 182 #[(0,.int .u64 (J0 x0)),(1,.int .u64 (J0 x1)),(2,.int .u64 (J0 x2)),(3,.int .u64 (J0 x3))]).run Tryz.prog w=.ok (H7 [x0,x1,x2,x3]) w:=by kernel_rfl
noncomputable def Lo (w:World) (raw:Result Next) (v0 v1 v2 v3:Value):Result Next:=match Aq v0,Aq v1,Aq v2,Aq v3 with
 | some x0,some x1,some x2,some x3=>.ok (.value (H7 [x0,x1,x2,x3])) w
 | _,_,_,_=>raw
@[go_sem] theorem C4y (w : World) (raw : Result Next) (x0 x1 x2 x3 : UInt64) : Lo w raw (.int .u64 (J0 x0)) (.int .u64 (J0 x1)) (.int .u64 (J0 x2)) (.int .u64 (J0 x3)) = .ok (.value (H7 [x0, x1, x2, x3])) w := by
 unfold Lo;simp only[Df]
@[go_sem ↓ high] theorem C9w (w : World) (ρ : Operand → Value) (dst : Option Tmp) (ty : TypeId) (pos : String) (after : Array Edge) (guard : Option (Nat × Bool)) (x0 x1 x2 x3 : Operand) :
 (execOp ρ { dst,op:=.build 182 #[(0,x0),(1,x1),(2,x2),(3,x3)],type:=ty,pos,after,guard }).run Tryz.prog w=Lo w (N8 Tryz.prog ρ { dst,op:=.build 182 #[(0,x0),(1,x1),(2,x2),(3,x3)],type:=ty,pos,after,guard } w) (ρ x0) (ρ x1) (ρ x2) (ρ x3):=by
 generalize h0:ρ x0=v0;generalize h1:ρ x1=v1;generalize h2:ρ x2=v2;generalize h3:ρ x3=v3;unfold Lo;split
 ·rename_i y0 y1 y2 y3 g0 g1 g2 g3
  refine P5 w ρ dst ty pos after guard _ _ _ ?_;simp only[List.map_toArray,List.map_cons,List.map_nil,h0,Ce g0,h1,Ce g1,h2,Ce g2,h3,Ce g3];exact A1f y0 y1 y2 y3 w
 ·rfl
theorem A2n (x0 x1:UInt64) (w:World):(Instr.build 211 #[(0,.int .u64 (J0 x0)),(1,.int .u64 (J0 x1))]).run Tryz.prog w=.ok (H7 [x0,x1]) w:=by kernel_rfl
noncomputable def Sm (w:World) (raw:Result Next) (v0 v1:Value):Result Next:=match Aq v0,Aq v1 with
 | some x0,some x1=>.ok (.value (H7 [x0,x1])) w
 | _,_=>raw
@[go_sem] theorem C4t (w : World) (raw : Result Next) (x0 x1 : UInt64) : Sm w raw (.int .u64 (J0 x0)) (.int .u64 (J0 x1)) = .ok (.value (H7 [x0, x1])) w := by
 unfold Sm;simp only[Df]
@[go_sem ↓ high] theorem C8m (w : World) (ρ : Operand → Value) (dst : Option Tmp) (ty : TypeId) (pos : String) (after : Array Edge) (guard : Option (Nat × Bool)) (x0 x1 : Operand) :
 (execOp ρ { dst,op:=.build 211 #[(0,x0),(1,x1)],type:=ty,pos,after,guard }).run Tryz.prog w=Sm w (N8 Tryz.prog ρ { dst,op:=.build 211 #[(0,x0),(1,x1)],type:=ty,pos,after,guard } w) (ρ x0) (ρ x1):=by
 generalize h0:ρ x0=v0;generalize h1:ρ x1=v1;unfold Sm;split
 ·rename_i y0 y1 g0 g1
  refine P5 w ρ dst ty pos after guard _ _ _ ?_;simp only[List.map_toArray,List.map_cons,List.map_nil,h0,Ce g0,h1,Ce g1];exact A2n y0 y1 w
 ·rfl
theorem A6q (x0 x1:UInt64) (w:World):(Instr.build 136 #[(0,.int .u64 (J0 x0)),(1,.int .u64 (J0 x1))]).run Tryz.prog w=.ok (H7 [x0,x1,0,0,0]) w:=by kernel_rfl
noncomputable def A2e (w:World) (raw:Result Next) (v0 v1:Value):Result Next:=match Aq v0,Aq v1 with
 | some x0,some x1=>.ok (.value (H7 [x0,x1,0,0,0])) w
 | _,_=>raw
@[go_sem] theorem C9n (w : World) (raw : Result Next) (x0 x1 : UInt64) : A2e w raw (.int .u64 (J0 x0)) (.int .u64 (J0 x1)) = .ok (.value (H7 [x0, x1, 0, 0, 0])) w := by
 unfold A2e;simp only[Df]
@[go_sem ↓ high] theorem D7g (w : World) (ρ : Operand → Value) (dst : Option Tmp) (ty : TypeId) (pos : String) (after : Array Edge) (guard : Option (Nat × Bool)) (x0 x1 : Operand) :
 (execOp ρ { dst,op:=.build 136 #[(0,x0),(1,x1)],type:=ty,pos,after,guard }).run Tryz.prog w=A2e w (N8 Tryz.prog ρ { dst,op:=.build 136 #[(0,x0),(1,x1)],type:=ty,pos,after,guard } w) (ρ x0) (ρ x1):=by
 generalize h0:ρ x0=v0;generalize h1:ρ x1=v1;unfold A2e;split
 ·rename_i y0 y1 g0 g1
  refine P5 w ρ dst ty pos after guard _ _ _ ?_;simp only[List.map_toArray,List.map_cons,List.map_nil,h0,h1,Ce g0,Ce g1];exact A6q y0 y1 w
 ·rfl
def Mv (x y z t:List UInt64):List UInt64:=x++(y++(z++t))
theorem X5 {x y z t:List UInt64} (hx:x.length=5) (hy:y.length=5) (hz:z.length=5) (ht:t.length=5):(Mv x y z t).length=20:=by simp[Mv,hx,hy,hz,ht]
noncomputable def C0m (w:World) (raw:Result Next) (a b c d:Value):Result Next:=match Vj a,Vj b,Vj c,Vj d with
 | some x,some y,some z,some t=>if x.length=5∧y.length=5∧z.length=5∧t.length=5 then .ok (.value (H7 (Mv x y z t))) w else raw
 | _,_,_,_=>raw
@[go_sem] theorem D8m (w : World) (raw : Result Next) (x y z t : List UInt64) (hx : x.length = 5) (hy : y.length = 5) (hz : z.length = 5) (ht : t.length = 5) : C0m w raw (H7 x) (H7 y) (H7 z) (H7 t) = .ok (.value (H7 (Mv x y z t))) w := by
 unfold C0m;simp only[Ov];simp[hx,hy,hz,ht]
theorem B1c (w:World):(Ep (U1 Tryz.prog 140)).run Tryz.prog w=.ok #[(0,5),(5,5),(10,5),(15,5)] w:=by kernel_rfl
theorem C7z (x y z t:List UInt64) (hx:x.length=5) (hy:y.length=5) (hz:z.length=5) (ht:t.length=5) (w:World):(Instr.build 140 #[(0,H7 x),(1,H7 y),(2,H7 z),(3,H7 t)]).run Tryz.prog w=.ok (H7 (Mv x y z t)) w:=by
 have aA:(H7 (I3 20)).cells.toList=C9 (I3 20):=rfl;have h1:=U5 X3 A9t w (B1c w) #[(0,H7 x),(1,H7 y),(2,H7 z),(3,H7 t)] [(0,C9 x),(5,C9 y),(10,C9 z),(15,C9 t)] (by
  rw[aA];exact ⟨by simp[hx],rfl,by simp[hx],by simp[hy],rfl,by simp[hy],by simp[hz],rfl,by simp[hz],by simp[ht],rfl,by simp[ht],trivial⟩)
 refine h1.trans (congrArg (fun (cs:List Value)=>Result.ok (Value.agg cs.toArray) w) ?_);rw[aA];simp[Fs,Af,hx,hy,hz,ht,List.take_append,List.drop_append,List.drop_eq_nil_of_le,List.take_of_length_le,Mv,C9]
@[go_sem ↓ high] theorem D2a (w : World) (ρ : Operand → Value) (dst : Option Tmp) (ty : TypeId) (pos : String) (after : Array Edge) (guard : Option (Nat × Bool)) (x y z t : Operand) :
 (execOp ρ { dst,op:=.build 140 #[(0,x),(1,y),(2,z),(3,t)],type:=ty,pos,after,guard }).run Tryz.prog w=C0m w (N8 Tryz.prog ρ { dst,op:=.build 140 #[(0,x),(1,y),(2,z),(3,t)],type:=ty,pos,after,guard } w) (ρ x) (ρ y) (ρ z) (ρ t):=by
 generalize h0:ρ x=a;generalize h1:ρ y=b;generalize h2:ρ z=c;generalize h3:ρ t=d;unfold C0m;split
 ·rename_i x' y' z' t' g0 g1 g2 g3
  replace g0:=Gf g0;replace g1:=Gf g1;replace g2:=Gf g2;replace g3:=Gf g3;split
  ·rename_i h
   refine P5 w ρ dst ty pos after guard _ _ _ ?_;simp only[List.map_toArray,List.map_cons,List.map_nil,h0,h1,h2,h3,g0,g1,g2,g3];exact C7z x' y' z' t' h.1 h.2.1 h.2.2.1 h.2.2.2 w
  ·rfl
 ·rfl
section
variable {w : World} {g : Nat} {tt : TypeId} {x y z t : List UInt64}
theorem D9x (h:Bk w g tt (C9 (Mv x y z t))) (hx:x.length=5) (hy:y.length=5) (hz:z.length=5) (ht:t.length=5):I6 w ⟨g,0,none⟩ 5=some (C9 x):=by
 have:=h.rowMid 0 5 (by simp[X5 hx hy hz ht]);rw[this];simp[Mv,C9,hx]
theorem E1h (h:Bk w g tt (C9 (Mv x y z t))) (hx:x.length=5) (hy:y.length=5) (hz:z.length=5) (ht:t.length=5):I6 w ⟨g,5,none⟩ 5=some (C9 y):=by
 have:=h.rowMid 5 5 (by simp[X5 hx hy hz ht]);rw[this];simp[Mv,C9,hx,hy]
theorem E0a (h:Bk w g tt (C9 (Mv x y z t))) (hx:x.length=5) (hy:y.length=5) (hz:z.length=5) (ht:t.length=5):I6 w ⟨g,10,none⟩ 5=some (C9 z):=by
 have:=h.rowMid 10 5 (by simp[X5 hx hy hz ht]);rw[this];simp[Mv,C9,hx,hy,hz,List.drop_append,List.drop_eq_nil_of_le]
theorem E1t (h:Bk w g tt (C9 (Mv x y z t))) (hx:x.length=5) (hy:y.length=5) (hz:z.length=5) (ht:t.length=5):I6 w ⟨g,15,none⟩ 5=some (C9 t):=by
 have:=h.rowMid 15 5 (by simp[X5 hx hy hz ht]);rw[this];simp[Mv,C9,hx,hy,hz,ht,List.drop_append,List.drop_eq_nil_of_le,List.take_of_length_le]
end
theorem Bk.row64 {w:World} {g:Nat} {t:TypeId} {l:List UInt64} {n:Nat} (h:Bk w g t (C9 l)) (hl:l.length=n):I6 w ⟨g,0,none⟩ n=some (C9 l):=by have:=h.rows;rwa [Cw,hl]at this
theorem Bk.fresh64 (w:World) (t:TypeId) {l m:List UInt64} (h:l.length=m.length):Bk (E0 (w.alloc (.cells (C9 l).toArray t)) ⟨w.heap.size,0,none⟩ (C9 m)) w.heap.size t (C9 m):=(Bk.new w t (C9 l)).puts (by simp[h])
theorem Ai (W:World) (t:TypeId) (l:List UInt64) (n N:Nat) (hl:l.length=n) (hN:W.heap.size=N):P7 (W.alloc (Obj.cells (C9 l).toArray t)) ⟨N,0,none⟩ n=true:=by
 subst hl hN;exact (Bk.new W t (C9 l)).can (by simp)
def Tk (x y c:UInt64):UInt64:=x+y+c
def Vk (x y c:UInt64):UInt64:=UInt64.ofNat ((x.toNat+y.toNat+c.toNat) / 18446744073709551616)
def B2q (x y b:UInt64):UInt64:=x-y-b
def B2t (x y b:UInt64):UInt64:=if x.toNat<y.toNat+b.toNat then 1 else 0
theorem A4y (x y c:UInt64) (hc:c.toNat≤1) (w:World):(callFunc 136 #[.int .u64 (J0 x),.int .u64 (J0 y),.int .u64 (J0 c)]).run Tryz.prog w=.ok (.value (.tuple #[.int .u64 (J0 (Tk x y c)),.int .u64 (J0 (Vk x y c))])) w:=by
 have hx:=Jb x;have hy:=Jb y;rw[run_callFunc_extern (fn:=Tryz.f136) Tryz.func136 (by kernel_rfl) (by kernel_rfl) (by kernel_rfl) (e:=add64Entry) (by kernel_rfl)];unfold J0;rw[run_add64 _ _ _ (by omega) (by omega) (by omega) (by omega)];have e1:(Tk x y c).toNat=(x.toNat+y.toNat+c.toNat) % 18446744073709551616:=by unfold Tk;rw[UInt64.toNat_add,UInt64.toNat_add];omega
 have e2:(Vk x y c).toNat=(x.toNat+y.toNat+c.toNat) / 18446744073709551616:=by unfold Vk;rw[UInt64.toNat_ofNat'];omega
 simp only[Result.andThen_ok];rw[e1,e2];congr 6<;>omega
theorem A8l (x y b:Nat) (hb:b≤1) (e:Array Value→Sem Value) (he:e=fun args=>do
 let (x, y, b) ← Extern.MathBitsCarry.three "Sub64" args
 pure (Extern.MathBitsCarry.pair ((x+Extern.MathBitsCarry.m64-y-b) % Extern.MathBitsCarry.m64) (if x<y+b then 1 else 0))) (w:World) :
 (e #[.int .u64 x,.int .u64 y,.int .u64 b]).run Tryz.prog w =
  .ok (.tuple #[.int .u64 (((x+18446744073709551616-y-b) % 18446744073709551616:Nat):Int),.int .u64 ((if x<y+b then 1 else 0:Nat):Int)]) w:=by
 subst he;have:b=0∨b=1:=by omega
 rcases this with rfl | rfl<;>rfl
theorem B6v (x y c:UInt64) (hc:c.toNat≤1) (w:World):(callFunc 151 #[.int .u64 (J0 x),.int .u64 (J0 y),.int .u64 (J0 c)]).run Tryz.prog w=.ok (.value (.tuple #[.int .u64 (J0 (B2q x y c)),.int .u64 (J0 (B2t x y c))])) w:=by
 have hx:=Jb x;have hy:=Jb y;rw[run_callFunc_extern (fn:=Tryz.f151) Tryz.func151 (by kernel_rfl) (by kernel_rfl) (by kernel_rfl) (e:=fun args=>do
  let (x, y, b) ← Extern.MathBitsCarry.three "Sub64" args
  pure (Extern.MathBitsCarry.pair ((x+Extern.MathBitsCarry.m64-y-b) % Extern.MathBitsCarry.m64) (if x<y+b then 1 else 0))) (by kernel_rfl)]
 unfold J0;rw[A8l _ _ _ hc _ rfl];have e1:(B2q x y c).toNat=(x.toNat+18446744073709551616-y.toNat-c.toNat) % 18446744073709551616:=by
  unfold B2q;rw[UInt64.toNat_sub,UInt64.toNat_sub];omega
 have e2:(B2t x y c).toNat=(if x.toNat<y.toNat+c.toNat then 1 else 0):=by unfold B2t;split<;>rfl
 simp only[Result.andThen_ok];rw[e1,e2]
attribute [go_sem] A4y B6v
@[go_sem] theorem D0g (x y : UInt64) (w : World) : (callFunc 136 #[.int .u64 (J0 x), .int .u64 (J0 y), .int .u64 0]).run Tryz.prog w = .ok (.value (.tuple #[.int .u64 (J0 (Tk x y 0)), .int .u64 (J0 (Vk x y 0))])) w := A4y x y 0 (by decide) w
@[go_sem] theorem B0t (x y c : UInt64) (hc : c.toNat ≤ 1) : (Vk x y c).toNat ≤ 1 := by
 have hx:=Jb x;have hy:=Jb y;unfold Vk;rw[UInt64.toNat_ofNat'];omega
@[go_sem] theorem D4n (x y : UInt64) : (Vk x y 0).toNat ≤ 1 := B0t x y 0 (by decide)
@[go_sem] theorem C1j (x y c : UInt64) : (B2t x y c).toNat ≤ 1 := by
 unfold B2t;split<;>decide
def A2u (x y:UInt64):UInt64:=UInt64.ofNat (x.toNat*y.toNat / 18446744073709551616)
end
def B5h (x y:UInt64):UInt64:=
 let x0:=x &&& 4294967295
 let x1:=x >>> 32
 let y0:=y &&& 4294967295
 let y1:=y >>> 32
 let w0:=x0*y0
 let t:=x1*y0+w0 >>> 32
 let w1:=(t &&& 4294967295)+x0*y1
 x1*y1+t >>> 32+w1 >>> 32
theorem B5r (a b c d:Nat) (ha:a<4294967296) (hb:b<4294967296) (hc:c<4294967296) (hd:d<4294967296) :
 b*d+(b*c+a*c / 4294967296) / 4294967296+((b*c+a*c / 4294967296) % 4294967296+a*d) / 4294967296=(a+4294967296*b)*(c+4294967296*d) / 18446744073709551616:=by
 have e:(a+4294967296*b)*(c+4294967296*d)=a*c+4294967296*(b*c)+4294967296*(a*d)+18446744073709551616*(b*d):=by
  simp only[Nat.add_mul,Nat.mul_add];have e1:a*(4294967296*d)=4294967296*(a*d):=by rw[Nat.mul_left_comm]
  have e2:4294967296*b*c=4294967296*(b*c):=Nat.mul_assoc _ _ _;have e3:4294967296*b*(4294967296*d)=18446744073709551616*(b*d):=by rw[Nat.mul_assoc,Nat.mul_left_comm b];rw[←Nat.mul_assoc]
  rw[e1,e2,e3];omega
 rw[e];generalize a*c=p;generalize b*c=q;generalize a*d=r;generalize b*d=s;omega
theorem B1r (x y:UInt64):B5h x y=A2u x y:=by
 apply UInt64.toNat_inj.1;have hx:=Jb x;have hy:=Jb y;have aD:x.toNat % 4294967296<4294967296:=Nat.mod_lt _ (by decide);have aE:x.toNat / 4294967296<4294967296:=by omega
 have aF:y.toNat % 4294967296<4294967296:=Nat.mod_lt _ (by decide);have aG:y.toNat / 4294967296<4294967296:=by omega
 have aA:=B5r _ _ _ _ aD aE aF aG;have ex:x.toNat % 4294967296+4294967296*(x.toNat / 4294967296)=x.toNat:=by omega
 have ey:y.toNat % 4294967296+4294967296*(y.toNat / 4294967296)=y.toNat:=by omega
 rw[ex,ey]at aA;have b1:(x.toNat / 4294967296)*(y.toNat % 4294967296)≤4294967295*4294967295:=Nat.mul_le_mul (by omega) (by omega);have b2:(x.toNat % 4294967296)*(y.toNat % 4294967296)≤4294967295*4294967295:=Nat.mul_le_mul (by omega) (by omega);have b3:(x.toNat % 4294967296)*(y.toNat / 4294967296)≤4294967295*4294967295:=Nat.mul_le_mul (by omega) (by omega);have b4:(x.toNat / 4294967296)*(y.toNat / 4294967296)≤4294967295*4294967295:=Nat.mul_le_mul (by omega) (by omega);have aB:∀z:UInt64,(z &&& 4294967295).toNat=z.toNat % 4294967296:=fun z=>by
  rw[UInt64.toNat_and];exact Nat.and_two_pow_sub_one_eq_mod z.toNat 32
 have aC:∀z:UInt64,(z >>> 32).toNat=z.toNat / 4294967296:=fun z=>by
  rw[UInt64.toNat_shiftRight];exact Nat.shiftRight_eq_div_pow z.toNat 32
 unfold B5h A2u;simp only[UInt64.toNat_add,UInt64.toNat_mul,aB,aC,UInt64.toNat_ofNat'];have hk:x.toNat*y.toNat / 18446744073709551616<18446744073709551616:=by
  have:x.toNat*y.toNat<18446744073709551616*18446744073709551616:=Nat.mul_lt_mul'' hx hy;omega
 rw[←aA]at hk ⊢;generalize (x.toNat / 4294967296)*(y.toNat % 4294967296)=q at *;generalize (x.toNat % 4294967296)*(y.toNat % 4294967296)=p at *;generalize (x.toNat % 4294967296)*(y.toNat / 4294967296)=r at *;generalize (x.toNat / 4294967296)*(y.toNat / 4294967296)=s at *;clear aA ex ey aB aC;omega
theorem Tj (x y:UInt64) (w:World):Calls Tryz.prog 138 #[.int .u64 (J0 x),.int .u64 (J0 y)] w fun e w'=>e=.returned (.tuple #[.int .u64 (J0 (A2u x y)),.int .u64 (J0 (x*y))])∧w'=w:=by
 rw[←B1r];go_enter Tryz.func138,Tryz.ntmps138;go_wp2;go_ret2
 exact ⟨rfl,rfl⟩
def Z2 (x y:UInt64):List UInt64:=[A2u x y,x*y]
@[simp, go_sem] theorem C3i (x y : UInt64) : (Z2 x y).length = 2 := rfl
def J7 (p:List UInt64) (x y:UInt64):List UInt64:=[Tk (A2u x y) (E9 p 0) (Vk (x*y) (E9 p 1) 0),Tk (x*y) (E9 p 1) 0]
@[simp, go_sem] theorem B9z (p : List UInt64) (x y : UInt64) : (J7 p x y).length = 2 := rfl
def over (p:List UInt64):UInt64:=E9 p 0 <<< 13 ||| E9 p 1 >>> (51:UInt64)
def Ek (a:List UInt64):List UInt64:=[(E9 a 0 &&& (2251799813685247:UInt64))+19*(E9 a 4 >>> (51:UInt64)),(E9 a 1 &&& (2251799813685247:UInt64))+E9 a 0 >>> (51:UInt64),(E9 a 2 &&& (2251799813685247:UInt64))+E9 a 1 >>> (51:UInt64),(E9 a 3 &&& (2251799813685247:UInt64))+E9 a 2 >>> (51:UInt64),(E9 a 4 &&& (2251799813685247:UInt64))+E9 a 3 >>> (51:UInt64)]
@[simp, go_sem] theorem B4d (a : List UInt64) : (Ek a).length = 5 := rfl
def B6j (t0 t1 t2 t3 t4:List UInt64):List UInt64:=[(E9 t0 1 &&& (2251799813685247:UInt64))+19*over t4,(E9 t1 1 &&& (2251799813685247:UInt64))+over t0,(E9 t2 1 &&& (2251799813685247:UInt64))+over t1,(E9 t3 1 &&& (2251799813685247:UInt64))+over t2,(E9 t4 1 &&& (2251799813685247:UInt64))+over t3]
@[simp, go_sem] theorem C4a (t0 t1 t2 t3 t4 : List UInt64) : (B6j t0 t1 t2 t3 t4).length = 5 := rfl
def Lu (t0 t1 t2 t3 t4:List UInt64):List UInt64:=Ek (B6j t0 t1 t2 t3 t4)
@[simp, go_sem] theorem B3u (t0 t1 t2 t3 t4 : List UInt64) : (Lu t0 t1 t2 t3 t4).length = 5 := rfl
theorem Q6 (x y:UInt64) (w:World):Calls Tryz.prog 131 #[.int .u64 (J0 x),.int .u64 (J0 y)] w fun e w'=>e=.returned (H7 (Z2 x y))∧Below w.heap.size w w':=by
 obtain⟨W0,aA⟩:=H8 (w.alloc (Obj.cells (C9 (I3 2)).toArray 211));have B0:=BA' aA;have R0:=KN' aA;have aB:=Fu 2 R0 (by simp);go_enter Tryz.func131,Tryz.ntmps131;go_wp2_with fail;rw[←aA];clear aA;refine (Tj x y W0).mono ?_;rintro e w1 ⟨rfl,rfl⟩;go_wp2_with fail;refine bodyPost_ret (E5 rfl _ _ _ _ _ _ rfl (R0.puts (vs:=C9 (Z2 x y)) (by simp)) Tb rfl (by simp[Vw])) rfl ⟨rfl,C5 B0 (Nat.le_refl _) _⟩
theorem P8 (p:List UInt64) (hp:p.length=2) (x y:UInt64) (w:World):Calls Tryz.prog 132 #[H7 p,.int .u64 (J0 x),.int .u64 (J0 y)] w fun e w'=>e=.returned (H7 (J7 p x y))∧Below w.heap.size w w':=by
 obtain⟨W0,aA⟩:=H8 ((w.alloc (Obj.cells (C9 p).toArray 211)).alloc (Obj.cells (C9 (I3 2)).toArray 211));have B0:Below w.heap.size w W0:=by rw[aA];exact (Bi _ _).alloc (by simp) _
 have P0:Bk W0 w.heap.size 211 (C9 p):=by rw[aA];exact (Bk.new w _ _).alloc _
 have R0:Bk W0 (w.heap.size+1) 211 (C9 (I3 2)):=by rw[aA];simpa using Bk.new (w.alloc (Obj.cells (C9 p).toArray 211)) 211 (C9 (I3 2))
 have aB:=Fu 2 R0 (by simp);have p0:=P0.at_ (J1 (l:=p) (i:=0) (by omega));have p1:=P0.at_ (J1 (l:=p) (i:=1) (by omega));go_enter Tryz.func132,Tryz.ntmps132;go_wp2_with fail;rw[←aA];clear aA;refine (Tj x y W0).mono ?_;rintro e w1 ⟨rfl,rfl⟩;go_wp2_with fail;refine bodyPost_ret (E5 rfl _ _ _ _ _ _ rfl (R0.puts (vs:=C9 (J7 p x y)) (by simp)) Tb rfl (by simp[Vw])) rfl ⟨rfl,C5 B0 (by simp) _⟩
theorem Ni (p:List UInt64) (hp:p.length=2) (w:World):Calls Tryz.prog 149 #[H7 p] w fun e w'=>e=.returned (.int .u64 (J0 (over p)))∧Below w.heap.size w w':=by
 obtain⟨W0,aA⟩:=H8 (w.alloc (Obj.cells (C9 p).toArray 211));have B0:=BA' aA;have P0:=KN' aA;have p0:=P0.at_ (J1 (l:=p) (i:=0) (by omega));have p1:=P0.at_ (J1 (l:=p) (i:=1) (by omega));rw[aA]at p0 p1;go_enter Tryz.func149,Tryz.ntmps149;go_wp2_with fail;rw[←aA];clear aA;go_ret;exact ⟨rfl,B0⟩
def Cv (f g:Nat→UInt64) (n i:Nat):List UInt64:=(List.range n).map fun j=>if j<i then f j else g j
@[simp, go_sem] theorem Na (f g : Nat → UInt64) (n i : Nat) : (Cv f g n i).length = n := by simp [Cv]
theorem Fk {f g:Nat→UInt64} {n i j:Nat} (hj:j<n):E9 (Cv f g n i) j=if j<i then f j else g j:=by
 unfold E9 Cv;rw[List.getD_eq_getElem?_getD,List.getElem?_map,List.getElem?_range hj];rfl
theorem Hw {f g:Nat→UInt64} {n i:Nat} (hi:i<n) {x:UInt64} (hx:x=f i):(Cv f g n i).set i x=Cv f g n (i+1):=by
 subst hx;apply List.ext_getElem?;intro j;unfold Cv;rw[List.getElem?_set];by_cases h:i=j
 ·subst h;rw[if_pos rfl,if_pos (by simpa using hi),List.getElem?_map,List.getElem?_range hi];simp
 ·rw[if_neg h,List.getElem?_map,List.getElem?_map];by_cases hj:j<n
  ·rw[List.getElem?_range hj];simp only[Option.map_some];have:(j<i+1)↔(j<i):=by omega
   simp[this]
  ·rw[List.getElem?_eq_none (by simpa using hj)];rfl
theorem Lt {f:Nat→UInt64} {l:List UInt64} {n:Nat} (hl:l.length=n):Cv f (E9 l) n 0=l:=by
 apply List.ext_getElem?;intro j;unfold Cv;rw[List.getElem?_map];by_cases hj:j<n
 ·rw[List.getElem?_range hj,List.getElem?_eq_getElem (by omega)];simp[E9,List.getD_eq_getElem?_getD,List.getElem?_eq_getElem (show j<l.length by omega)]
 ·rw[List.getElem?_eq_none (by simpa using hj),List.getElem?_eq_none (by omega)];rfl
theorem Xs {f:Nat→UInt64} {n:Nat}:Cv f (fun _=>0) n 0=I3 n:=by
 apply List.ext_getElem?;intro j;unfold Cv I3;rw[List.getElem?_map,List.getElem?_replicate];by_cases hj:j<n
 ·rw[List.getElem?_range hj,if_pos hj];rfl
 ·rw[List.getElem?_eq_none (by simpa using hj),if_neg hj];rfl
def Pw (a:List UInt64) (j:Nat):UInt64:=E9 a j >>> (51:UInt64)
def Mm (a:List UInt64) (j:Nat):UInt64:=E9 a j &&& (2251799813685247:UInt64)
def B6d (a:List UInt64):Nat→UInt64
 | 0=>Mm a 0+19*Pw a 4
 | j+1=>Mm a (j+1)+Pw a j
theorem A6t (a:List UInt64):Cv (B6d a) (Mm a) 5 5=Ek a:=rfl
theorem Hv (a:List UInt64) (ha:a.length=5) (w:World):Calls Tryz.prog 134 #[H7 a] w fun e w'=>e=.returned (H7 (Ek a))∧Below w.heap.size w w':=by
 obtain⟨W0,aA⟩:=H8 ((((w.alloc (Obj.cells (C9 a).toArray 138)).alloc (Obj.cells (C9 (I3 5)).toArray 138)).alloc (Obj.cells (C9 (I3 5)).toArray 136)));have B0:Below w.heap.size w W0:=by rw[aA];exact ((Bi _ _).alloc (by simp) _).alloc (by simp;omega) _
 have A0:Bk W0 w.heap.size 138 (C9 a):=by rw[aA];exact ((Bk.new w _ _).alloc _).alloc _
 have R0:Bk W0 (w.heap.size+1) 138 (C9 (I3 5)):=by rw[aA];refine Bk.alloc ?_ _;simpa using Bk.new (w.alloc (Obj.cells (C9 a).toArray 138)) 138 (C9 (I3 5))
 have C0:Bk W0 (w.heap.size+2) 136 (C9 (I3 5)):=by rw[aA];simpa using Bk.new ((w.alloc (Obj.cells (C9 a).toArray 138)).alloc (Obj.cells (C9 (I3 5)).toArray 138)) 136 (C9 (I3 5))
 have aC:=Fu 5 C0 (by simp);have C1:=C0.puts (vs:=C9 (I3 5)) (by simp);have A1:=A0.putFar (p:=⟨w.heap.size+2,0,none⟩) (by simp) (C9 (I3 5));have R1:=R0.putFar (p:=⟨w.heap.size+2,0,none⟩) (by simp) (C9 (I3 5));have B1:=C5 (a:=⟨w.heap.size+2,0,none⟩) B0 (by simp) (C9 (I3 5));rw[aA]at aC;go_enter Tryz.func134,Tryz.ntmps134;go_wp2_with fail;rw[←aA];clear aA;obtain⟨W1,aD⟩:=H8 (E0 W0 ⟨w.heap.size+2,0,none⟩ (C9 (I3 5)));rw[←aD]at C1 A1 R1 B1 ⊢;clear aD C0 A0 R0 B0 aC;rw[←Xs (f:=Pw a)]at C1;rw[←Lt (f:=Mm a) ha]at A1;go_loopw [7] (fun t wr=>∃i:Nat,i≤5∧t=.int .i64 (i:Int)∧Bk wr w.heap.size 138 (C9 (Cv (Mm a) (E9 a) 5 i))∧Bk wr (w.heap.size+2) 136 (C9 (Cv (Pw a) (fun _=>0) 5 i))∧Bk wr (w.heap.size+1) 138 (C9 (I3 5))∧Below w.heap.size w wr) (fun t _=>5-(intOf t).toNat)
 case atStart=>exact ⟨0,by omega,rfl,A1,C1,R1,B1⟩
 case round=>
  clear A1 C1 R1 B1;obtain⟨i,hi,rfl,K,C,R,B⟩:=hrel;by_cases hlt:i<5
  ·have k0:=K.at_ (J1 (l:=Cv (Mm a) (E9 a) 5 i) (i:=i) (by simpa using hlt));have f0:=K.frozen i;have c0:=C.at_ (J1 (l:=Cv (Pw a) (fun _=>0) 5 i) (i:=i) (by simpa using hlt));have f1:=C.frozen i;rw[Fk hlt,if_neg (by omega)]at k0;have C2:=C.set_ i (.int .u64 (J0 (E9 a i >>> (51:UInt64))));rw[Am,Hw (f:=Pw a) (g:=fun _=>0) (x:=E9 a i >>> (51:UInt64)) hlt rfl]at C2;have K2:=K.far (p:=⟨w.heap.size+2,i,none⟩) (by simp) (.int .u64 (J0 (E9 a i >>> (51:UInt64))));have R2:=R.far (p:=⟨w.heap.size+2,i,none⟩) (by simp) (.int .u64 (J0 (E9 a i >>> (51:UInt64))));have k2:=K2.at_ (J1 (l:=Cv (Mm a) (E9 a) 5 i) (i:=i) (by simpa using hlt));have f2:=K2.frozen i;rw[Fk hlt,if_neg (by omega)]at k2;have K3:=K2.set_ i (.int .u64 (J0 (E9 a i &&& (2251799813685247:UInt64))));rw[Am,Hw (f:=Mm a) (g:=E9 a) (x:=E9 a i &&& (2251799813685247:UInt64)) hlt rfl]at K3;have C3:=C2.far (p:=⟨w.heap.size,i,none⟩) (by simp) (.int .u64 (J0 (E9 a i &&& (2251799813685247:UInt64))));have R3:=R2.far (p:=⟨w.heap.size,i,none⟩) (by simp) (.int .u64 (J0 (E9 a i &&& (2251799813685247:UInt64))));clear K2 C2 R2 K C R;go_wp2_with fail;go_roundw;case rel=>exact ⟨i+1,by omega,by go_num,K3,C3,R3,(B.setCell (by show w.heap.size≤w.heap.size+2;omega) _).setCell (by simp) _⟩
   case measure=>simp[intOf];omega
  ·obtain rfl:i=5:=by omega
   have k0:=K.at_ (J1 (l:=Cv (Mm a) (E9 a) 5 5) (i:=0) (by simp));have f0:=K.frozen 0;have c4:=C.at_ (J1 (l:=Cv (Pw a) (fun _=>0) 5 5) (i:=4) (by simp));rw[Fk (by omega),if_pos (by omega)]at k0 c4;have e5:((5:Nat):Int)=5:=rfl;rw[e5];obtain⟨W2,aB⟩:=H8 (wr.setCell ⟨w.heap.size,0,none⟩ (.int .u64 (J0 (Mm a 0+19*Pw a 4))));have K2:Bk W2 w.heap.size 138 (C9 (Cv (B6d a) (Mm a) 5 1)):=by have:=K.set_ 0 (.int .u64 (J0 (Mm a 0+19*Pw a 4)));rw[Am]at this;rw[aB];exact this
   have C2:Bk W2 (w.heap.size+2) 136 (C9 (Cv (Pw a) (fun _=>0) 5 5)):=by rw[aB];exact C.far (by simp) _
   have R2:Bk W2 (w.heap.size+1) 138 (C9 (I3 5)):=by rw[aB];exact R.far (by simp) _
   have B2:Below w.heap.size w W2:=by rw[aB];exact B.setCell (by simp) _
   clear K C R B e5;go_wp2_with fail;rw[←aB];clear aB k0 c4 f0;go_loopw [5] (fun t wr=>∃i:Nat,1≤i∧i≤5∧t=.int .i64 (i:Int)∧Bk wr w.heap.size 138 (C9 (Cv (B6d a) (Mm a) 5 i))∧Bk wr (w.heap.size+2) 136 (C9 (Cv (Pw a) (fun _=>0) 5 5))∧Bk wr (w.heap.size+1) 138 (C9 (I3 5))∧Below w.heap.size w wr) (fun t _=>5-(intOf t).toNat)
   case atStart=>exact ⟨1,by omega,by omega,rfl,K2,C2,R2,B2⟩
   case round=>
    clear K2 C2 R2 B2;obtain⟨i,h1,hi,rfl,K,C,R,B⟩:=hrel;by_cases hlt:i<5
    ·obtain⟨m,rfl⟩:∃m,i=m+1:=⟨i-1,by omega⟩;have k0:=K.at_ (J1 (l:=Cv (B6d a) (Mm a) 5 (m+1)) (i:=m+1) (by simpa using hlt));have f0:=K.frozen (m+1);have c0:=C.at_ (J1 (l:=Cv (Pw a) (fun _=>0) 5 5) (i:=m) (by simp;omega));rw[Fk hlt,if_neg (by omega)]at k0;rw[Fk (by omega),if_pos (by omega)]at c0;have K3:=K.set_ (m+1) (.int .u64 (J0 (Mm a (m+1)+Pw a m)));rw[Am,Hw (f:=B6d a) (g:=Mm a) (x:=Mm a (m+1)+Pw a m) hlt rfl]at K3;have C3:=C.far (p:=⟨w.heap.size,m+1,none⟩) (by simp) (.int .u64 (J0 (Mm a (m+1)+Pw a m)));have R3:=R.far (p:=⟨w.heap.size,m+1,none⟩) (by simp) (.int .u64 (J0 (Mm a (m+1)+Pw a m)));clear K C R;go_wp2_with fail;refine Ay 11 (by kernel_rfl) (by kernel_rfl) ?_;simp only[List.take_succ_cons,List.take_zero,List.drop_succ_cons,List.drop_zero];repeat (go_big_quiet_step (fail))
     refine wpQuiet_nil ?_;rintro w6 ⟨aE,rfl⟩;go_wp2_with fail;go_roundw;case rel=>exact ⟨m+1+1,by omega,by omega,by go_num,K3,C3,R3,(Q2 B aE).setCell (by simp) _⟩
     case measure=>simp[intOf];omega
    ·obtain rfl:i=5:=by omega
     rw[A6t]at K;have e5:((5:Nat):Int)=5:=rfl;rw[e5];clear e5;have rk:=K.row64 (n:=5) (by simp);have rc:=Fu 5 R (by simp);go_wp2_with fail;refine bodyPost_ret (E5 rfl _ _ _ _ _ _ rfl (R.puts (vs:=C9 (Ek a)) (by simp)) P4 rfl (by simp[X8])) rfl ⟨rfl,C5 B (by simp) _⟩
end Go.Proofs.YtlegpkdighoflaaGreat
