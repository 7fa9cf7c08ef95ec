/- A part of the proof of DirPlays. -/
import Derived.Laws.Externs
import Derived.Test.YtlegpkdighoflaaGreatRam
set_option linter.unusedVariables false
set_option linter.unusedSimpArgs false
set_option maxRecDepth 100000
set_option maxHeartbeats 40000000
namespace Go.Proofs.YtlegpkdighoflaaGreat
open Go Go.RowKit Sh
section
theorem C2d (x y:UInt64):Op.intArith .sub .u64 (F0 x) (F0 y)=pure (.int .u64 (F0 (x-y))):=by
 unfold Op.intArith F0;have hx:=Me x;have hy:=Me y;have e:IntKind.u64.wrap ((x.toNat:Int)-(y.toNat:Int))=(((18446744073709551616-y.toNat+x.toNat) % 18446744073709551616:Nat):Int):=by
  simp only[IntKind.wrap,IntKind.bits,IntKind.signed,Bool.false_and,Bool.false_eq_true,if_false];omega
 rw[e,UInt64.toNat_sub]
attribute [go_sem ↓ high] C2d
noncomputable def A1j (v:Value):Option (List UInt64):=open Classical in if h:∃l,v=H8 l then some h.choose else none
theorem B9c {x y:UInt64} (h:Ys x=Ys y):x=y:=by
 unfold Ys at h;injection h with _ h;exact B0g h
theorem D7p {xs ys:List UInt64} (h:H8 xs=H8 ys):xs=ys:=by
 unfold H8 C9 at h;injection h with h;have h':(xs.map Ys)=(ys.map Ys):=by simpa using congrArg Array.toList h
 exact (List.map_inj_right fun _ _=>B9c).1 h'
theorem Ya (l:List UInt64):A1j (H8 l)=some l:=by
 have h:∃m,H8 l=H8 m:=⟨l,rfl⟩;unfold A1j;rw[dif_pos h];exact congrArg some (D7p h.choose_spec).symm
theorem Il {v:Value} {l:List UInt64} (h:A1j v=some l):v=H8 l:=by
 unfold A1j at h;split at h
 ·rename_i hh
  injection h with h;rw[←h];exact hh.choose_spec
 ·cases h
@[go_sem] theorem E5n (t : TypeId) (w : World) (raw : Result Next) (l : List UInt64) : Xe t w raw (H8 l) = .ok (.value (.pointer (some ⟨w.heap.size, 0, none⟩))) (w.alloc (.cells (C9 l).toArray t)) := rfl
noncomputable def Zg (n:Nat) (w:World) (raw:Result Next) (v:Value):Result Next:=match A1j v with
 | some l=>if l.length=n then .ok (.value (H8 l)) w else raw
 | none=>raw
@[go_sem] theorem E5z (n : Nat) (w : World) (raw : Result Next) (l : List UInt64) (h : l.length = n) : Zg n w raw (H8 l) = .ok (.value (H8 l)) w := by
 unfold Zg;rw[Ya];simp[h]
noncomputable def Cb (v:Value):Option UInt64:=open Classical in if h:∃x,v=Ys x then some h.choose else none
theorem Ek (x:UInt64):Cb (.int .u64 (F0 x))=some x:=by
 have h:∃y,Ys x=Ys y:=⟨x,rfl⟩;show Cb (Ys x)=_;unfold Cb;rw[dif_pos h];exact congrArg some (B9c h.choose_spec).symm
theorem Dk {v:Value} {x:UInt64} (h:Cb v=some x):v=.int .u64 (F0 x):=by
 unfold Cb at h;split at h
 ·rename_i hh
  injection h with h;rw[←h];exact hh.choose_spec
 ·cases h
@[go_sem ↓ high] theorem F3z (x : UInt64) (k : IntKind) : Op.shift .shr .u64 (F0 x) k 4 = pure (.int .u64 (F0 (x >>> 4))) := Cp x k 4 (by decide)
@[go_sem ↓ high] theorem F4t (x : UInt64) (k : IntKind) : Op.shift .shl .u64 (F0 x) k 4 = pure (.int .u64 (F0 (x <<< 4))) := Dc x k 4 (by decide)
@[go_sem ↓ high] theorem F5x (x : UInt64) (k : IntKind) : Op.shift .shr .u64 (F0 x) k 5 = pure (.int .u64 (F0 (x >>> 5))) := Cp x k 5 (by decide)
@[go_sem ↓ high] theorem F5v (x : UInt64) (k : IntKind) : Op.shift .shl .u64 (F0 x) k 5 = pure (.int .u64 (F0 (x <<< 5))) := Dc x k 5 (by decide)
@[go_sem ↓ high] theorem F2d (x : UInt64) (k : IntKind) : Op.shift .shr .u64 (F0 x) k 12 = pure (.int .u64 (F0 (x >>> 12))) := Cp x k 12 (by decide)
@[go_sem ↓ high] theorem E8s (x : UInt64) (k : IntKind) : Op.shift .shl .u64 (F0 x) k 12 = pure (.int .u64 (F0 (x <<< 12))) := Dc x k 12 (by decide)
@[go_sem ↓ high] theorem F0m (x : UInt64) (k : IntKind) : Op.shift .shr .u64 (F0 x) k 13 = pure (.int .u64 (F0 (x >>> 13))) := Cp x k 13 (by decide)
@[go_sem ↓ high] theorem E7k (x : UInt64) (k : IntKind) : Op.shift .shl .u64 (F0 x) k 13 = pure (.int .u64 (F0 (x <<< 13))) := Dc x k 13 (by decide)
@[go_sem ↓ high] theorem F1t (x : UInt64) (k : IntKind) : Op.shift .shr .u64 (F0 x) k 25 = pure (.int .u64 (F0 (x >>> 25))) := Cp x k 25 (by decide)
@[go_sem ↓ high] theorem F0n (x : UInt64) (k : IntKind) : Op.shift .shl .u64 (F0 x) k 25 = pure (.int .u64 (F0 (x <<< 25))) := Dc x k 25 (by decide)
@[go_sem ↓ high] theorem F3m (x : UInt64) (k : IntKind) : Op.shift .shr .u64 (F0 x) k 26 = pure (.int .u64 (F0 (x >>> 26))) := Cp x k 26 (by decide)
@[go_sem ↓ high] theorem E7w (x : UInt64) (k : IntKind) : Op.shift .shl .u64 (F0 x) k 26 = pure (.int .u64 (F0 (x <<< 26))) := Dc x k 26 (by decide)
@[go_sem ↓ high] theorem E9d (x : UInt64) (k : IntKind) : Op.shift .shr .u64 (F0 x) k 38 = pure (.int .u64 (F0 (x >>> 38))) := Cp x k 38 (by decide)
@[go_sem ↓ high] theorem E7t (x : UInt64) (k : IntKind) : Op.shift .shl .u64 (F0 x) k 38 = pure (.int .u64 (F0 (x <<< 38))) := Dc x k 38 (by decide)
@[go_sem ↓ high] theorem F0x (x : UInt64) (k : IntKind) : Op.shift .shr .u64 (F0 x) k 39 = pure (.int .u64 (F0 (x >>> 39))) := Cp x k 39 (by decide)
@[go_sem ↓ high] theorem F2b (x : UInt64) (k : IntKind) : Op.shift .shl .u64 (F0 x) k 39 = pure (.int .u64 (F0 (x <<< 39))) := Dc x k 39 (by decide)
@[go_sem ↓ high] theorem E8c (x : UInt64) (k : IntKind) : Op.shift .shr .u64 (F0 x) k 51 = pure (.int .u64 (F0 (x >>> 51))) := Cp x k 51 (by decide)
@[go_sem ↓ high] theorem E7c (x : UInt64) (k : IntKind) : Op.shift .shl .u64 (F0 x) k 51 = pure (.int .u64 (F0 (x <<< 51))) := Dc x k 51 (by decide)
@[go_sem ↓ high] theorem E8m (x : UInt64) (k : IntKind) : Op.shift .shr .u64 (F0 x) k 60 = pure (.int .u64 (F0 (x >>> 60))) := Cp x k 60 (by decide)
@[go_sem ↓ high] theorem F3v (x : UInt64) (k : IntKind) : Op.shift .shl .u64 (F0 x) k 60 = pure (.int .u64 (F0 (x <<< 60))) := Dc x k 60 (by decide)
@[go_sem ↓ high] theorem E7r (x : UInt64) (k : IntKind) : Op.shift .shr .u64 (F0 x) k 63 = pure (.int .u64 (F0 (x >>> 63))) := Cp x k 63 (by decide)
@[go_sem ↓ high] theorem F0j (x : UInt64) (k : IntKind) : Op.shift .shl .u64 (F0 x) k 63 = pure (.int .u64 (F0 (x <<< 63))) := Dc x k 63 (by decide)
@[go_sem ↓ high] theorem F5t (x : UInt64) : Op.intBits .and .u64 (F0 x) 1 = pure (.int .u64 (F0 (x &&& 1))) := B3a x 1
@[go_sem ↓ high] theorem E9h (x : UInt64) : Op.intBits .and .u64 (F0 x) 15 = pure (.int .u64 (F0 (x &&& 15))) := B3a x 15
@[go_sem ↓ high] theorem C3p (x : UInt64) : Op.intBits .and .u64 (F0 x) 4294967295 = pure (.int .u64 (F0 (x &&& 4294967295))) := B3a x 4294967295
@[go_sem ↓ high] theorem A9l (x : UInt64) : Op.intBits .and .u64 (F0 x) 2251799813685247 = pure (.int .u64 (F0 (x &&& 2251799813685247))) := B3a x 2251799813685247
@[go_sem ↓ high] theorem F7w (x : UInt8) : Op.intBits .and .u8 (n8 x) 1 = pure (.int .u8 (n8 (x &&& 1))) := C8f x 1
@[go_sem ↓ high] theorem F5c (x : UInt8) : Op.intBits .and .u8 (n8 x) 15 = pure (.int .u8 (n8 (x &&& 15))) := C8f x 15
@[go_sem ↓ high] theorem E9v (x : UInt8) : Op.intBits .and .u8 (n8 x) 127 = pure (.int .u8 (n8 (x &&& 127))) := C8f x 127
@[go_sem ↓ high] theorem E9g (x : UInt8) : Op.intBits .and .u8 (n8 x) 248 = pure (.int .u8 (n8 (x &&& 248))) := C8f x 248
@[go_sem ↓ high] theorem F6m (x : UInt8) : Op.intBits .or .u8 (n8 x) 64 = pure (.int .u8 (n8 (x ||| 64))) := or8 x 64
@[go_sem ↓ high] theorem F4o (x : UInt8) : Op.intBits .or .u8 (n8 x) 128 = pure (.int .u8 (n8 (x ||| 128))) := or8 x 128
@[go_sem ↓ high] theorem F4q (x : UInt64) : Op.intArith .mul .u64 2 (F0 x) = pure (.int .u64 (F0 (2 * x))) := A8u 2 x
@[go_sem ↓ high] theorem F1o (x : UInt64) : Op.intArith .mul .u64 19 (F0 x) = pure (.int .u64 (F0 (19 * x))) := A8u 19 x
@[go_sem ↓ high] theorem F2q (x : UInt64) : Op.intArith .add .u64 (F0 x) 19 = pure (.int .u64 (F0 (x + 19))) := add64 x 19
@[go_sem ↓ high] theorem E7x (x : UInt64) : Op.intArith .sub .u64 (F0 x) 72 = pure (.int .u64 (F0 (x - 72))) := C2d x 72
@[go_sem ↓ high] theorem F3h (x : UInt64) : Op.intArith .sub .u64 9007199254740988 (F0 x) = pure (.int .u64 (F0 (9007199254740988 - x))) := C2d 9007199254740988 x
theorem C2s:(Tryz.prog.info? 136).map (·.size)=some 5:=by kernel_rfl
theorem D8e:((Tryz.prog.info? 136).bind (·.zero))=some (H8 (M1 5)):=by kernel_rfl
section
variable (w : World) (ρ : Operand → Value) (dst : Option Tmp) (ty : TypeId) (pos : String) (after : Array Edge) (guard : Option (Nat × Bool))
@[go_sem ↓ high] theorem F4y:RL' 136 5:=LL' Tryz.underlying136 C2s
@[go_sem ↓ high] theorem E9e:RS' 136 5:=SS' C2s
@[go_sem ↓ high] theorem E7l:RA' 136 (C9 (M1 5)).toArray:=fun w ρ dst ty pos after guard=>O9 w ρ dst ty pos after guard 136 (H8 (M1 5)) D8e
@[go_sem ↓ high] theorem F7s:RB' 136:=BX' _
end
theorem Xc:(Tryz.prog.info? 182).map (·.size)=some 4:=by kernel_rfl
theorem D6n:((Tryz.prog.info? 182).bind (·.zero))=some (H8 (M1 4)):=by kernel_rfl
section
variable (w : World) (ρ : Operand → Value) (dst : Option Tmp) (ty : TypeId) (pos : String) (after : Array Edge) (guard : Option (Nat × Bool))
@[go_sem ↓ high] theorem F4h:RL' 182 4:=LL' Tryz.underlying182 Xc
@[go_sem ↓ high] theorem F2j:RS' 182 4:=SS' Xc
@[go_sem ↓ high] theorem F1n:RA' 182 (C9 (M1 4)).toArray:=fun w ρ dst ty pos after guard=>O9 w ρ dst ty pos after guard 182 (H8 (M1 4)) D6n
@[go_sem ↓ high] theorem F7d:RB' 182:=BX' _
end
theorem Pp:(Tryz.prog.info? 138).map (·.size)=some 5:=by kernel_rfl
theorem C1w:((Tryz.prog.info? 138).bind (·.zero))=some (H8 (M1 5)):=by kernel_rfl
theorem Ho:Tryz.prog.underlying 138=some (.struct (S4 Tryz.prog 138)):=by kernel_rfl
section
variable (w : World) (ρ : Operand → Value) (dst : Option Tmp) (ty : TypeId) (pos : String) (after : Array Edge) (guard : Option (Nat × Bool))
@[go_sem ↓ high] theorem F5o:RL' 138 5:=LL' Ho Pp
@[go_sem ↓ high] theorem E6z:RS' 138 5:=SS' Pp
@[go_sem ↓ high] theorem E9x:RA' 138 (C9 (M1 5)).toArray:=fun w ρ dst ty pos after guard=>O9 w ρ dst ty pos after guard 138 (H8 (M1 5)) C1w
@[go_sem ↓ high] theorem F6t:RB' 138:=BX' _
end
theorem A2a:(Tryz.prog.info? 211).map (·.size)=some 2:=by kernel_rfl
theorem D6v:((Tryz.prog.info? 211).bind (·.zero))=some (H8 (M1 2)):=by kernel_rfl
theorem Yu:Tryz.prog.underlying 211=some (.struct (S4 Tryz.prog 211)):=by kernel_rfl
section
variable (w : World) (ρ : Operand → Value) (dst : Option Tmp) (ty : TypeId) (pos : String) (after : Array Edge) (guard : Option (Nat × Bool))
@[go_sem ↓ high] theorem F4d:RL' 211 2:=LL' Yu A2a
@[go_sem ↓ high] theorem F0d:RS' 211 2:=SS' A2a
@[go_sem ↓ high] theorem F2k:RA' 211 (C9 (M1 2)).toArray:=fun w ρ dst ty pos after guard=>O9 w ρ dst ty pos after guard 211 (H8 (M1 2)) D6v
@[go_sem ↓ high] theorem F7k:RB' 211:=BX' _
end
theorem Jm:(Tryz.prog.info? 184).map (·.size)=some 4:=by kernel_rfl
theorem C1e:((Tryz.prog.info? 184).bind (·.zero))=some (H8 (M1 4)):=by kernel_rfl
theorem Ff:Tryz.prog.underlying 184=some (.struct (S4 Tryz.prog 184)):=by kernel_rfl
section
variable (w : World) (ρ : Operand → Value) (dst : Option Tmp) (ty : TypeId) (pos : String) (after : Array Edge) (guard : Option (Nat × Bool))
@[go_sem ↓ high] theorem F6e:RL' 184 4:=LL' Ff Jm
@[go_sem ↓ high] theorem E8x:RS' 184 4:=SS' Jm
@[go_sem ↓ high] theorem B5g:RA' 184 (C9 (M1 4)).toArray:=fun w ρ dst ty pos after guard=>O9 w ρ dst ty pos after guard 184 (H8 (M1 4)) C1e
@[go_sem ↓ high] theorem F7z:RB' 184:=BX' _
end
theorem Tm:(Tryz.prog.info? 140).map (·.size)=some 20:=by kernel_rfl
theorem C2j:((Tryz.prog.info? 140).bind (·.zero))=some (H8 (M1 20)):=by kernel_rfl
theorem Jd:Tryz.prog.underlying 140=some (.struct (S4 Tryz.prog 140)):=by kernel_rfl
section
variable (w : World) (ρ : Operand → Value) (dst : Option Tmp) (ty : TypeId) (pos : String) (after : Array Edge) (guard : Option (Nat × Bool))
@[go_sem ↓ high] theorem F5y:RL' 140 20:=LL' Jd Tm
@[go_sem ↓ high] theorem E6y:RS' 140 20:=SS' Tm
@[go_sem ↓ high] theorem F0e:RA' 140 (C9 (M1 20)).toArray:=fun w ρ dst ty pos after guard=>O9 w ρ dst ty pos after guard 140 (H8 (M1 20)) C2j
@[go_sem ↓ high] theorem F7n:RB' 140:=BX' _
end
theorem B2o:(Tryz.prog.info? 177).map (·.size)=some 320:=by kernel_rfl
theorem C9l:((Tryz.prog.info? 177).bind (·.zero))=some (H8 (M1 320)):=by kernel_rfl
section
variable (w : World) (ρ : Operand → Value) (dst : Option Tmp) (ty : TypeId) (pos : String) (after : Array Edge) (guard : Option (Nat × Bool))
@[go_sem ↓ high] theorem F3r:RL' 177 320:=LL' Tryz.underlying177 B2o
@[go_sem ↓ high] theorem E6i:RS' 177 320:=SS' B2o
@[go_sem ↓ high] theorem A7a:RA' 177 (C9 (M1 320)).toArray:=fun w ρ dst ty pos after guard=>O9 w ρ dst ty pos after guard 177 (H8 (M1 320)) C9l
@[go_sem ↓ high] theorem F4c:RB' 177:=BX' _
end
theorem A3k:(Tryz.prog.info? 205).map (·.size)=some 640:=by kernel_rfl
theorem D1s:((Tryz.prog.info? 205).bind (·.zero))=some (H8 (M1 640)):=by kernel_rfl
section
variable (w : World) (ρ : Operand → Value) (dst : Option Tmp) (ty : TypeId) (pos : String) (after : Array Edge) (guard : Option (Nat × Bool))
@[go_sem ↓ high] theorem E8y:RL' 205 640:=LL' Tryz.underlying205 A3k
@[go_sem ↓ high] theorem E5a:RS' 205 640:=SS' A3k
@[go_sem ↓ high] theorem E5b:RA' 205 (C9 (M1 640)).toArray:=fun w ρ dst ty pos after guard=>O9 w ρ dst ty pos after guard 205 (H8 (M1 640)) D1s
@[go_sem ↓ high] theorem F5p:RB' 205:=BX' _
end
theorem B2r (w:World):(Instr.build 136 #[]).run Tryz.prog w=.ok (H8 (M1 5)) w:=by kernel_rfl
@[go_sem ↓ high] theorem E4x (w : World) (ρ : Operand → Value) (dst : Option Tmp) (ty : TypeId) (pos : String) (after : Array Edge) (guard : Option (Nat × Bool)) :
 (execOp ρ { dst,op:=.build 136 #[],type:=ty,pos,after,guard }).run Tryz.prog w=.ok (.value (H8 (M1 5))) w:=
 N9 w ρ dst ty pos after guard _ _ _ (by simp only[List.map_toArray,List.map_nil];exact B2r w)
theorem B3w (w:World):(Instr.build 182 #[]).run Tryz.prog w=.ok (H8 (M1 4)) w:=by kernel_rfl
@[go_sem ↓ high] theorem E4t (w : World) (ρ : Operand → Value) (dst : Option Tmp) (ty : TypeId) (pos : String) (after : Array Edge) (guard : Option (Nat × Bool)) :
 (execOp ρ { dst,op:=.build 182 #[],type:=ty,pos,after,guard }).run Tryz.prog w=.ok (.value (H8 (M1 4))) w:=
 N9 w ρ dst ty pos after guard _ _ _ (by simp only[List.map_toArray,List.map_nil];exact B3w w)
theorem A9e (w:World):(Instr.build 155 #[]).run Tryz.prog w=.ok (H8 (M1 8)) w:=by kernel_rfl
@[go_sem ↓ high] theorem E4j (w : World) (ρ : Operand → Value) (dst : Option Tmp) (ty : TypeId) (pos : String) (after : Array Edge) (guard : Option (Nat × Bool)) :
 (execOp ρ { dst,op:=.build 155 #[],type:=ty,pos,after,guard }).run Tryz.prog w=.ok (.value (H8 (M1 8))) w:=
 N9 w ρ dst ty pos after guard _ _ _ (by simp only[List.map_toArray,List.map_nil];exact A9e w)
theorem B6g (w:World):(Instr.build 138 #[]).run Tryz.prog w=.ok (H8 (M1 5)) w:=by kernel_rfl
@[go_sem ↓ high] theorem E5w (w : World) (ρ : Operand → Value) (dst : Option Tmp) (ty : TypeId) (pos : String) (after : Array Edge) (guard : Option (Nat × Bool)) :
 (execOp ρ { dst,op:=.build 138 #[],type:=ty,pos,after,guard }).run Tryz.prog w=.ok (.value (H8 (M1 5))) w:=
 N9 w ρ dst ty pos after guard _ _ _ (by simp only[List.map_toArray,List.map_nil];exact B6g w)
theorem B3x (w:World):(Instr.build 184 #[]).run Tryz.prog w=.ok (H8 (M1 4)) w:=by kernel_rfl
@[go_sem ↓ high] theorem E6f (w : World) (ρ : Operand → Value) (dst : Option Tmp) (ty : TypeId) (pos : String) (after : Array Edge) (guard : Option (Nat × Bool)) :
 (execOp ρ { dst,op:=.build 184 #[],type:=ty,pos,after,guard }).run Tryz.prog w=.ok (.value (H8 (M1 4))) w:=
 N9 w ρ dst ty pos after guard _ _ _ (by simp only[List.map_toArray,List.map_nil];exact B3x w)
theorem B2v (w:World):(Instr.build 140 #[]).run Tryz.prog w=.ok (H8 (M1 20)) w:=by kernel_rfl
@[go_sem ↓ high] theorem E5q (w : World) (ρ : Operand → Value) (dst : Option Tmp) (ty : TypeId) (pos : String) (after : Array Edge) (guard : Option (Nat × Bool)) :
 (execOp ρ { dst,op:=.build 140 #[],type:=ty,pos,after,guard }).run Tryz.prog w=.ok (.value (H8 (M1 20))) w:=
 N9 w ρ dst ty pos after guard _ _ _ (by simp only[List.map_toArray,List.map_nil];exact B2v w)
theorem C5j (w:World):(Fz (S4 Tryz.prog 138)).run Tryz.prog w=.ok #[(0,5)] w:=by kernel_rfl
theorem B6d (l:List UInt64) (h:l.length=5) (w:World):(Instr.build 138 #[(0,H8 l)]).run Tryz.prog w=.ok (H8 l) w:=by
 have hz:(H8 (M1 5)).cells.toList=C9 (M1 5):=rfl;have h1:=U4 Ho C1w w (C5j w) #[(0,H8 l)] [(0,C9 l)] (by
  rw[hz];exact ⟨by simp[h],rfl,by simp[h],trivial⟩)
 refine h1.trans (congrArg (fun (cs:List Value)=>Result.ok (Value.agg cs.toArray) w) ?_);rw[hz];simp[Hd,Bg,h,List.drop_eq_nil_of_le,C9]
@[go_sem ↓ high] theorem E8p (w : World) (ρ : Operand → Value) (dst : Option Tmp) (ty : TypeId) (pos : String) (after : Array Edge) (guard : Option (Nat × Bool)) (x : Operand) :
 (execOp ρ { dst,op:=.build 138 #[(0,x)],type:=ty,pos,after,guard }).run Tryz.prog w=Zg 5 w (L3 Tryz.prog ρ { dst,op:=.build 138 #[(0,x)],type:=ty,pos,after,guard } w) (ρ x):=by
 generalize hx:ρ x=a;unfold Zg;split
 ·rename_i l hl
  replace hl:=Il hl;split
  ·rename_i h
   refine N9 w ρ dst ty pos after guard _ _ _ ?_;simp only[List.map_toArray,List.map_cons,List.map_nil,hx,hl];exact B6d l h w
  ·rfl
 ·rfl
theorem C4y (w:World):(Fz (S4 Tryz.prog 184)).run Tryz.prog w=.ok #[(0,4)] w:=by kernel_rfl
theorem B2u (l:List UInt64) (h:l.length=4) (w:World):(Instr.build 184 #[(0,H8 l)]).run Tryz.prog w=.ok (H8 l) w:=by
 have hz:(H8 (M1 4)).cells.toList=C9 (M1 4):=rfl;have h1:=U4 Ff C1e w (C4y w) #[(0,H8 l)] [(0,C9 l)] (by
  rw[hz];exact ⟨by simp[h],rfl,by simp[h],trivial⟩)
 refine h1.trans (congrArg (fun (cs:List Value)=>Result.ok (Value.agg cs.toArray) w) ?_);rw[hz];simp[Hd,Bg,h,List.drop_eq_nil_of_le,C9]
@[go_sem ↓ high] theorem F0v (w : World) (ρ : Operand → Value) (dst : Option Tmp) (ty : TypeId) (pos : String) (after : Array Edge) (guard : Option (Nat × Bool)) (x : Operand) :
 (execOp ρ { dst,op:=.build 184 #[(0,x)],type:=ty,pos,after,guard }).run Tryz.prog w=Zg 4 w (L3 Tryz.prog ρ { dst,op:=.build 184 #[(0,x)],type:=ty,pos,after,guard } w) (ρ x):=by
 generalize hx:ρ x=a;unfold Zg;split
 ·rename_i l hl
  replace hl:=Il hl;split
  ·rename_i h
   refine N9 w ρ dst ty pos after guard _ _ _ ?_;simp only[List.map_toArray,List.map_cons,List.map_nil,hx,hl];exact B2u l h w
  ·rfl
 ·rfl
theorem B0b (x0 x1 x2 x3 x4:UInt64) (w:World):(Instr.build 136 #[(0,.int .u64 (F0 x0)),(1,.int .u64 (F0 x1)),(2,.int .u64 (F0 x2)),(3,.int .u64 (F0 x3)),(4,.int .u64 (F0 x4))]).run Tryz.prog w=.ok (H8 [x0,x1,x2,x3,x4]) w:=by kernel_rfl
noncomputable def Oa (w:World) (raw:Result Next) (v0 v1 v2 v3 v4:Value):Result Next:=match Cb v0,Cb v1,Cb v2,Cb v3,Cb v4 with
 | some x0,some x1,some x2,some x3,some x4=>.ok (.value (H8 [x0,x1,x2,x3,x4])) w
 | _,_,_,_,_=>raw
@[go_sem] theorem E0t (w : World) (raw : Result Next) (x0 x1 x2 x3 x4 : UInt64) : Oa w raw (.int .u64 (F0 x0)) (.int .u64 (F0 x1)) (.int .u64 (F0 x2)) (.int .u64 (F0 x3)) (.int .u64 (F0 x4)) = .ok (.value (H8 [x0, x1, x2, x3, x4])) w := by
 unfold Oa;simp only[Ek]
@[go_sem ↓ high] theorem E6e (w : World) (ρ : Operand → Value) (dst : Option Tmp) (ty : TypeId) (pos : String) (after : Array Edge) (guard : Option (Nat × Bool)) (x0 x1 x2 x3 x4 : Operand) :
 (execOp ρ { dst,op:=.build 136 #[(0,x0),(1,x1),(2,x2),(3,x3),(4,x4)],type:=ty,pos,after,guard }).run Tryz.prog w=Oa w (L3 Tryz.prog ρ { dst,op:=.build 136 #[(0,x0),(1,x1),(2,x2),(3,x3),(4,x4)],type:=ty,pos,after,guard } w) (ρ x0) (ρ x1) (ρ x2) (ρ x3) (ρ x4):=by
 generalize h0:ρ x0=v0;generalize h1:ρ x1=v1;generalize h2:ρ x2=v2;generalize h3:ρ x3=v3;generalize h4:ρ x4=v4;unfold Oa;split
 ·rename_i y0 y1 y2 y3 y4 g0 g1 g2 g3 g4
  refine N9 w ρ dst ty pos after guard _ _ _ ?_;simp only[List.map_toArray,List.map_cons,List.map_nil,h0,Dk g0,h1,Dk g1,h2,Dk g2,h3,Dk g3,h4,Dk g4];exact B0b y0 y1 y2 y3 y4 w
 ·rfl
theorem B0q (x0 x1 x2 x3:UInt64) (w:World):(Instr.build 182 #[(0,.int .u64 (F0 x0)),(1,.int .u64 (F0 x1)),(2,.int .u64 (F0 x2)),(3,.int .u64 (F0 x3))]).run Tryz.prog w=.ok (H8 [x0,x1,x2,x3]) w:=by kernel_rfl
noncomputable def Ob (w:World) (raw:Result Next) (v0 v1 v2 v3:Value):Result Next:=match Cb v0,Cb v1,Cb v2,Cb v3 with
 | some x0,some x1,some x2,some x3=>.ok (.value (H8 [x0,x1,x2,x3])) w
 | _,_,_,_=>raw
@[go_sem] theorem E0r (w : World) (raw : Result Next) (x0 x1 x2 x3 : UInt64) : Ob w raw (.int .u64 (F0 x0)) (.int .u64 (F0 x1)) (.int .u64 (F0 x2)) (.int .u64 (F0 x3)) = .ok (.value (H8 [x0, x1, x2, x3])) w := by
 unfold Ob;simp only[Ek]
@[go_sem ↓ high] theorem E6o (w : World) (ρ : Operand → Value) (dst : Option Tmp) (ty : TypeId) (pos : String) (after : Array Edge) (guard : Option (Nat × Bool)) (x0 x1 x2 x3 : Operand) :
 (execOp ρ { dst,op:=.build 182 #[(0,x0),(1,x1),(2,x2),(3,x3)],type:=ty,pos,after,guard }).run Tryz.prog w=Ob w (L3 Tryz.prog ρ { dst,op:=.build 182 #[(0,x0),(1,x1),(2,x2),(3,x3)],type:=ty,pos,after,guard } w) (ρ x0) (ρ x1) (ρ x2) (ρ x3):=by
 generalize h0:ρ x0=v0;generalize h1:ρ x1=v1;generalize h2:ρ x2=v2;generalize h3:ρ x3=v3;unfold Ob;split
 ·rename_i y0 y1 y2 y3 g0 g1 g2 g3
  refine N9 w ρ dst ty pos after guard _ _ _ ?_;simp only[List.map_toArray,List.map_cons,List.map_nil,h0,Dk g0,h1,Dk g1,h2,Dk g2,h3,Dk g3];exact B0q y0 y1 y2 y3 w
 ·rfl
theorem B0p (x0 x1:UInt64) (w:World):(Instr.build 211 #[(0,.int .u64 (F0 x0)),(1,.int .u64 (F0 x1))]).run Tryz.prog w=.ok (H8 [x0,x1]) w:=by kernel_rfl
noncomputable def Xy (w:World) (raw:Result Next) (v0 v1:Value):Result Next:=match Cb v0,Cb v1 with
 | some x0,some x1=>.ok (.value (H8 [x0,x1])) w
 | _,_=>raw
@[go_sem] theorem E0y (w : World) (raw : Result Next) (x0 x1 : UInt64) : Xy w raw (.int .u64 (F0 x0)) (.int .u64 (F0 x1)) = .ok (.value (H8 [x0, x1])) w := by
 unfold Xy;simp only[Ek]
@[go_sem ↓ high] theorem E4w (w : World) (ρ : Operand → Value) (dst : Option Tmp) (ty : TypeId) (pos : String) (after : Array Edge) (guard : Option (Nat × Bool)) (x0 x1 : Operand) :
 (execOp ρ { dst,op:=.build 211 #[(0,x0),(1,x1)],type:=ty,pos,after,guard }).run Tryz.prog w=Xy w (L3 Tryz.prog ρ { dst,op:=.build 211 #[(0,x0),(1,x1)],type:=ty,pos,after,guard } w) (ρ x0) (ρ x1):=by
 generalize h0:ρ x0=v0;generalize h1:ρ x1=v1;unfold Xy;split
 ·rename_i y0 y1 g0 g1
  refine N9 w ρ dst ty pos after guard _ _ _ ?_;simp only[List.map_toArray,List.map_cons,List.map_nil,h0,Dk g0,h1,Dk g1];exact B0p y0 y1 w
 ·rfl
theorem B9a (x0 x1:UInt64) (w:World):(Instr.build 136 #[(0,.int .u64 (F0 x0)),(1,.int .u64 (F0 x1))]).run Tryz.prog w=.ok (H8 [x0,x1,0,0,0]) w:=by kernel_rfl
noncomputable def A9q (w:World) (raw:Result Next) (v0 v1:Value):Result Next:=match Cb v0,Cb v1 with
 | some x0,some x1=>.ok (.value (H8 [x0,x1,0,0,0])) w
 | _,_=>raw
@[go_sem] theorem E4y (w : World) (raw : Result Next) (x0 x1 : UInt64) : A9q w raw (.int .u64 (F0 x0)) (.int .u64 (F0 x1)) = .ok (.value (H8 [x0, x1, 0, 0, 0])) w := by
 unfold A9q;simp only[Ek]
@[go_sem ↓ high] theorem F4k (w : World) (ρ : Operand → Value) (dst : Option Tmp) (ty : TypeId) (pos : String) (after : Array Edge) (guard : Option (Nat × Bool)) (x0 x1 : Operand) :
 (execOp ρ { dst,op:=.build 136 #[(0,x0),(1,x1)],type:=ty,pos,after,guard }).run Tryz.prog w=A9q w (L3 Tryz.prog ρ { dst,op:=.build 136 #[(0,x0),(1,x1)],type:=ty,pos,after,guard } w) (ρ x0) (ρ x1):=by
 generalize h0:ρ x0=v0;generalize h1:ρ x1=v1;unfold A9q;split
 ·rename_i y0 y1 g0 g1
  refine N9 w ρ dst ty pos after guard _ _ _ ?_;simp only[List.map_toArray,List.map_cons,List.map_nil,h0,h1,Dk g0,Dk g1];exact B9a y0 y1 w
 ·rfl
def ptl (x y z t:List UInt64):List UInt64:=x++(y++(z++t))
theorem B8j {x y z t:List UInt64} (hx:x.length=5) (hy:y.length=5) (hz:z.length=5) (ht:t.length=5):(ptl x y z t).length=20:=by simp[ptl,hx,hy,hz,ht]
noncomputable def F0h (w:World) (raw:Result Next) (a b c d:Value):Result Next:=match A1j a,A1j b,A1j c,A1j d with
 | some x,some y,some z,some t=>if x.length=5∧y.length=5∧z.length=5∧t.length=5 then .ok (.value (H8 (ptl x y z t))) w else raw
 | _,_,_,_=>raw
theorem C4q (w:World):(Fz (S4 Tryz.prog 140)).run Tryz.prog w=.ok #[(0,5),(5,5),(10,5),(15,5)] w:=by kernel_rfl
theorem E2x (x y z t:List UInt64) (hx:x.length=5) (hy:y.length=5) (hz:z.length=5) (ht:t.length=5) (w:World):(Instr.build 140 #[(0,H8 x),(1,H8 y),(2,H8 z),(3,H8 t)]).run Tryz.prog w=.ok (H8 (ptl x y z t)) w:=by
 have aA:(H8 (M1 20)).cells.toList=C9 (M1 20):=rfl;have h1:=U4 Jd C2j w (C4q w) #[(0,H8 x),(1,H8 y),(2,H8 z),(3,H8 t)] [(0,C9 x),(5,C9 y),(10,C9 z),(15,C9 t)] (by
  rw[aA];exact ⟨by simp[hx],rfl,by simp[hx],by simp[hy],rfl,by simp[hy],by simp[hz],rfl,by simp[hz],by simp[ht],rfl,by simp[ht],trivial⟩)
 refine h1.trans (congrArg (fun (cs:List Value)=>Result.ok (Value.agg cs.toArray) w) ?_);rw[aA];simp[Hd,Bg,hx,hy,hz,ht,List.take_append,List.drop_append,List.drop_eq_nil_of_le,List.take_of_length_le,ptl,C9]
@[go_sem ↓ high] theorem E6v (w : World) (ρ : Operand → Value) (dst : Option Tmp) (ty : TypeId) (pos : String) (after : Array Edge) (guard : Option (Nat × Bool)) (x y z t : Operand) :
 (execOp ρ { dst,op:=.build 140 #[(0,x),(1,y),(2,z),(3,t)],type:=ty,pos,after,guard }).run Tryz.prog w=F0h w (L3 Tryz.prog ρ { dst,op:=.build 140 #[(0,x),(1,y),(2,z),(3,t)],type:=ty,pos,after,guard } w) (ρ x) (ρ y) (ρ z) (ρ t):=by
 generalize h0:ρ x=a;generalize h1:ρ y=b;generalize h2:ρ z=c;generalize h3:ρ t=d;unfold F0h;split
 ·rename_i x' y' z' t' g0 g1 g2 g3
  replace g0:=Il g0;replace g1:=Il g1;replace g2:=Il g2;replace g3:=Il g3;split
  ·rename_i h
   refine N9 w ρ dst ty pos after guard _ _ _ ?_;simp only[List.map_toArray,List.map_cons,List.map_nil,h0,h1,h2,h3,g0,g1,g2,g3];exact E2x x' y' z' t' h.1 h.2.1 h.2.2.1 h.2.2.2 w
  ·rfl
 ·rfl
section
variable {w : World} {g : Nat} {tt : TypeId} {x y z t : List UInt64}
end
theorem Bk.row64 {w:World} {g:Nat} {t:TypeId} {l:List UInt64} {n:Nat} (h:Bk w g t (C9 l)) (hl:l.length=n):C8 w ⟨g,0,none⟩ n=some (C9 l):=by have:=h.rows;rwa [Ph,hl]at this
theorem Bk.fresh64 (w:World) (t:TypeId) {l m:List UInt64} (h:l.length=m.length):Bk (C4 (w.alloc (.cells (C9 l).toArray t)) ⟨w.heap.size,0,none⟩ (C9 m)) w.heap.size t (C9 m):=(Bk.new w t (C9 l)).puts (by simp[h])
theorem A0n (W:World) (t:TypeId) (l:List UInt64) (n N:Nat) (hl:l.length=n) (hN:W.heap.size=N):P7 (W.alloc (Obj.cells (C9 l).toArray t)) ⟨N,0,none⟩ n=true:=by
 subst hl hN;exact (Bk.new W t (C9 l)).can (by simp)
def Zk (x y c:UInt64):UInt64:=x+y+c
def A1n (x y c:UInt64):UInt64:=UInt64.ofNat ((x.toNat+y.toNat+c.toNat) / 18446744073709551616)
def C3w (x y b:UInt64):UInt64:=x-y-b
def C4c (x y b:UInt64):UInt64:=if x.toNat<y.toNat+b.toNat then 1 else 0
theorem B2h (x y c:UInt64) (hc:c.toNat≤1) (w:World):(callFunc 136 #[.int .u64 (F0 x),.int .u64 (F0 y),.int .u64 (F0 c)]).run Tryz.prog w=.ok (.value (.tuple #[.int .u64 (F0 (Zk x y c)),.int .u64 (F0 (A1n x y c))])) w:=by
 have hx:=Me x;have hy:=Me y;rw[run_callFunc_extern (fn:=Tryz.f136) Tryz.func136 (by kernel_rfl) (by kernel_rfl) (by kernel_rfl) (e:=add64Entry) (by kernel_rfl)];unfold F0;rw[run_add64 _ _ _ (by omega) (by omega) (by omega) (by omega)];have e1:(Zk x y c).toNat=(x.toNat+y.toNat+c.toNat) % 18446744073709551616:=by unfold Zk;rw[UInt64.toNat_add,UInt64.toNat_add];omega
 have e2:(A1n x y c).toNat=(x.toNat+y.toNat+c.toNat) / 18446744073709551616:=by unfold A1n;rw[UInt64.toNat_ofNat'];omega
 simp only[Result.andThen_ok];rw[e1,e2];congr 6<;>omega
theorem B9k (x y b:Nat) (hb:b≤1) (e:Array Value→Sem Value) (he:e=fun args=>do
 let (x, y, b) ← Extern.MathBitsCarry.three "Sub64" args
 pure (Extern.MathBitsCarry.pair ((x+Extern.MathBitsCarry.m64-y-b) % Extern.MathBitsCarry.m64) (if x<y+b then 1 else 0))) (w:World) :
 (e #[.int .u64 x,.int .u64 y,.int .u64 b]).run Tryz.prog w =
  .ok (.tuple #[.int .u64 (((x+18446744073709551616-y-b) % 18446744073709551616:Nat):Int),.int .u64 ((if x<y+b then 1 else 0:Nat):Int)]) w:=by
 subst he;have:b=0∨b=1:=by omega
 rcases this with rfl | rfl<;>rfl
theorem D2c (x y c:UInt64) (hc:c.toNat≤1) (w:World):(callFunc 151 #[.int .u64 (F0 x),.int .u64 (F0 y),.int .u64 (F0 c)]).run Tryz.prog w=.ok (.value (.tuple #[.int .u64 (F0 (C3w x y c)),.int .u64 (F0 (C4c x y c))])) w:=by
 have hx:=Me x;have hy:=Me y;rw[run_callFunc_extern (fn:=Tryz.f151) Tryz.func151 (by kernel_rfl) (by kernel_rfl) (by kernel_rfl) (e:=fun args=>do
  let (x, y, b) ← Extern.MathBitsCarry.three "Sub64" args
  pure (Extern.MathBitsCarry.pair ((x+Extern.MathBitsCarry.m64-y-b) % Extern.MathBitsCarry.m64) (if x<y+b then 1 else 0))) (by kernel_rfl)]
 unfold F0;rw[B9k _ _ _ hc _ rfl];have e1:(C3w x y c).toNat=(x.toNat+18446744073709551616-y.toNat-c.toNat) % 18446744073709551616:=by
  unfold C3w;rw[UInt64.toNat_sub,UInt64.toNat_sub];omega
 have e2:(C4c x y c).toNat=(if x.toNat<y.toNat+c.toNat then 1 else 0):=by unfold C4c;split<;>rfl
 simp only[Result.andThen_ok];rw[e1,e2]
attribute [go_sem] B2h D2c
@[go_sem] theorem E5s (x y : UInt64) (w : World) : (callFunc 136 #[.int .u64 (F0 x), .int .u64 (F0 y), .int .u64 0]).run Tryz.prog w = .ok (.value (.tuple #[.int .u64 (F0 (Zk x y 0)), .int .u64 (F0 (A1n x y 0))])) w := B2h x y 0 (by decide) w
@[go_sem] theorem C2w (x y c : UInt64) (hc : c.toNat ≤ 1) : (A1n x y c).toNat ≤ 1 := by
 have hx:=Me x;have hy:=Me y;unfold A1n;rw[UInt64.toNat_ofNat'];omega
@[go_sem] theorem F0u (x y : UInt64) : (A1n x y 0).toNat ≤ 1 := C2w x y 0 (by decide)
@[go_sem] theorem D8z (x y c : UInt64) : (C4c x y c).toNat ≤ 1 := by
 unfold C4c;split<;>decide
def B2t (x y:UInt64):UInt64:=UInt64.ofNat (x.toNat*y.toNat / 18446744073709551616)
end
def D0l (x y:UInt64):UInt64:=
 let x0:=x &&& 4294967295
 let x1:=x >>> 32
 let y0:=y &&& 4294967295
 let y1:=y >>> 32
 let w0:=x0*y0
 let t:=x1*y0+w0 >>> 32
 let w1:=(t &&& 4294967295)+x0*y1
 x1*y1+t >>> 32+w1 >>> 32
theorem C9u (a b c d:Nat) (ha:a<4294967296) (hb:b<4294967296) (hc:c<4294967296) (hd:d<4294967296) :
 b*d+(b*c+a*c / 4294967296) / 4294967296+((b*c+a*c / 4294967296) % 4294967296+a*d) / 4294967296=(a+4294967296*b)*(c+4294967296*d) / 18446744073709551616:=by
 have e:(a+4294967296*b)*(c+4294967296*d)=a*c+4294967296*(b*c)+4294967296*(a*d)+18446744073709551616*(b*d):=by
  simp only[Nat.add_mul,Nat.mul_add];have e1:a*(4294967296*d)=4294967296*(a*d):=by rw[Nat.mul_left_comm]
  have e2:4294967296*b*c=4294967296*(b*c):=Nat.mul_assoc _ _ _;have e3:4294967296*b*(4294967296*d)=18446744073709551616*(b*d):=by rw[Nat.mul_assoc,Nat.mul_left_comm b];rw[←Nat.mul_assoc]
  rw[e1,e2,e3];omega
 rw[e];generalize a*c=p;generalize b*c=q;generalize a*d=r;generalize b*d=s;omega
theorem C6c (x y:UInt64):D0l x y=B2t x y:=by
 apply UInt64.toNat_inj.1;have hx:=Me x;have hy:=Me y;have aD:x.toNat % 4294967296<4294967296:=Nat.mod_lt _ (by decide);have aE:x.toNat / 4294967296<4294967296:=by omega
 have aF:y.toNat % 4294967296<4294967296:=Nat.mod_lt _ (by decide);have aG:y.toNat / 4294967296<4294967296:=by omega
 have aA:=C9u _ _ _ _ aD aE aF aG;have ex:x.toNat % 4294967296+4294967296*(x.toNat / 4294967296)=x.toNat:=by omega
 have ey:y.toNat % 4294967296+4294967296*(y.toNat / 4294967296)=y.toNat:=by omega
 rw[ex,ey]at aA;have b1:(x.toNat / 4294967296)*(y.toNat % 4294967296)≤4294967295*4294967295:=Nat.mul_le_mul (by omega) (by omega);have b2:(x.toNat % 4294967296)*(y.toNat % 4294967296)≤4294967295*4294967295:=Nat.mul_le_mul (by omega) (by omega);have b3:(x.toNat % 4294967296)*(y.toNat / 4294967296)≤4294967295*4294967295:=Nat.mul_le_mul (by omega) (by omega);have b4:(x.toNat / 4294967296)*(y.toNat / 4294967296)≤4294967295*4294967295:=Nat.mul_le_mul (by omega) (by omega);have aB:∀z:UInt64,(z &&& 4294967295).toNat=z.toNat % 4294967296:=fun z=>by
  rw[UInt64.toNat_and];exact Nat.and_two_pow_sub_one_eq_mod z.toNat 32
 have aC:∀z:UInt64,(z >>> 32).toNat=z.toNat / 4294967296:=fun z=>by
  rw[UInt64.toNat_shiftRight];exact Nat.shiftRight_eq_div_pow z.toNat 32
 unfold D0l B2t;simp only[UInt64.toNat_add,UInt64.toNat_mul,aB,aC,UInt64.toNat_ofNat'];have hk:x.toNat*y.toNat / 18446744073709551616<18446744073709551616:=by
  have:x.toNat*y.toNat<18446744073709551616*18446744073709551616:=Nat.mul_lt_mul'' hx hy;omega
 rw[←aA]at hk ⊢;generalize (x.toNat / 4294967296)*(y.toNat % 4294967296)=q at *;generalize (x.toNat % 4294967296)*(y.toNat % 4294967296)=p at *;generalize (x.toNat % 4294967296)*(y.toNat / 4294967296)=r at *;generalize (x.toNat / 4294967296)*(y.toNat / 4294967296)=s at *;clear aA ex ey aB aC;omega
theorem Zv (x y:UInt64) (w:World):Calls Tryz.prog 138 #[.int .u64 (F0 x),.int .u64 (F0 y)] w fun e w'=>e=.returned (.tuple #[.int .u64 (F0 (B2t x y)),.int .u64 (F0 (x*y))])∧w'=w:=by
 rw[←C6c];go_enter Tryz.func138,Tryz.ntmps138;go_wp2;go_ret2
 exact ⟨rfl,rfl⟩
def Qh (x y:UInt64):List UInt64:=[B2t x y,x*y]
@[simp, go_sem] theorem E1b (x y : UInt64) : (Qh x y).length = 2 := rfl
def Bs (p:List UInt64) (x y:UInt64):List UInt64:=[Zk (B2t x y) (F8 p 0) (A1n (x*y) (F8 p 1) 0),Zk (x*y) (F8 p 1) 0]
@[simp, go_sem] theorem D6r (p : List UInt64) (x y : UInt64) : (Bs p x y).length = 2 := rfl
def over (p:List UInt64):UInt64:=F8 p 0 <<< 13 ||| F8 p 1 >>> (51:UInt64)
def Im (a:List UInt64):List UInt64:=[(F8 a 0 &&& (2251799813685247:UInt64))+19*(F8 a 4 >>> (51:UInt64)),(F8 a 1 &&& (2251799813685247:UInt64))+F8 a 0 >>> (51:UInt64),(F8 a 2 &&& (2251799813685247:UInt64))+F8 a 1 >>> (51:UInt64),(F8 a 3 &&& (2251799813685247:UInt64))+F8 a 2 >>> (51:UInt64),(F8 a 4 &&& (2251799813685247:UInt64))+F8 a 3 >>> (51:UInt64)]
@[simp, go_sem] theorem C8n (a : List UInt64) : (Im a).length = 5 := rfl
def D7e (t0 t1 t2 t3 t4:List UInt64):List UInt64:=[(F8 t0 1 &&& (2251799813685247:UInt64))+19*over t4,(F8 t1 1 &&& (2251799813685247:UInt64))+over t0,(F8 t2 1 &&& (2251799813685247:UInt64))+over t1,(F8 t3 1 &&& (2251799813685247:UInt64))+over t2,(F8 t4 1 &&& (2251799813685247:UInt64))+over t3]
@[simp, go_sem] theorem D9h (t0 t1 t2 t3 t4 : List UInt64) : (D7e t0 t1 t2 t3 t4).length = 5 := rfl
def Nn (t0 t1 t2 t3 t4:List UInt64):List UInt64:=Im (D7e t0 t1 t2 t3 t4)
@[simp, go_sem] theorem C7j (t0 t1 t2 t3 t4 : List UInt64) : (Nn t0 t1 t2 t3 t4).length = 5 := rfl
theorem B5j (x y:UInt64) (w:World):Calls Tryz.prog 131 #[.int .u64 (F0 x),.int .u64 (F0 y)] w fun e w'=>e=.returned (H8 (Qh x y))∧Below w.heap.size w w':=by
 obtain⟨W0,aA⟩:=E9 (w.alloc (Obj.cells (C9 (M1 2)).toArray 211));have B0:=BA' aA;have R0:=KN' aA;have aB:=Mh 2 R0 (by simp);go_enter Tryz.func131,Tryz.ntmps131;go_wp2_with fail;rw[←aA];clear aA;refine (Zv x y W0).mono ?_;rintro e w1 ⟨rfl,rfl⟩;go_wp2_with fail;refine bodyPost_ret (C5 rfl _ _ _ _ _ _ rfl (R0.puts (vs:=C9 (Qh x y)) (by simp)) Yu rfl (by simp[A2a])) rfl ⟨rfl,C0 B0 (Nat.le_refl _) _⟩
theorem C9s (p:List UInt64) (hp:p.length=2) (x y:UInt64) (w:World):Calls Tryz.prog 132 #[H8 p,.int .u64 (F0 x),.int .u64 (F0 y)] w fun e w'=>e=.returned (H8 (Bs p x y))∧Below w.heap.size w w':=by
 obtain⟨W0,aA⟩:=E9 ((w.alloc (Obj.cells (C9 p).toArray 211)).alloc (Obj.cells (C9 (M1 2)).toArray 211));have B0:Below w.heap.size w W0:=by rw[aA];exact (Bh _ _).alloc (by simp) _
 have P0:Bk W0 w.heap.size 211 (C9 p):=by rw[aA];exact (Bk.new w _ _).alloc _
 have R0:Bk W0 (w.heap.size+1) 211 (C9 (M1 2)):=by rw[aA];simpa using Bk.new (w.alloc (Obj.cells (C9 p).toArray 211)) 211 (C9 (M1 2))
 have aB:=Mh 2 R0 (by simp);have p0:=P0.at_ (J6 (l:=p) (i:=0) (by omega));have p1:=P0.at_ (J6 (l:=p) (i:=1) (by omega));go_enter Tryz.func132,Tryz.ntmps132;go_wp2_with fail;rw[←aA];clear aA;refine (Zv x y W0).mono ?_;rintro e w1 ⟨rfl,rfl⟩;go_wp2_with fail;refine bodyPost_ret (C5 rfl _ _ _ _ _ _ rfl (R0.puts (vs:=C9 (Bs p x y)) (by simp)) Yu rfl (by simp[A2a])) rfl ⟨rfl,C0 B0 (by simp) _⟩
theorem D3t (p:List UInt64) (hp:p.length=2) (w:World):Calls Tryz.prog 149 #[H8 p] w fun e w'=>e=.returned (.int .u64 (F0 (over p)))∧Below w.heap.size w w':=by
 obtain⟨W0,aA⟩:=E9 (w.alloc (Obj.cells (C9 p).toArray 211));have B0:=BA' aA;have P0:=KN' aA;have p0:=P0.at_ (J6 (l:=p) (i:=0) (by omega));have p1:=P0.at_ (J6 (l:=p) (i:=1) (by omega));rw[aA]at p0 p1;go_enter Tryz.func149,Tryz.ntmps149;go_wp2_with fail;rw[←aA];clear aA;go_ret;exact ⟨rfl,B0⟩
end Go.Proofs.YtlegpkdighoflaaGreat
