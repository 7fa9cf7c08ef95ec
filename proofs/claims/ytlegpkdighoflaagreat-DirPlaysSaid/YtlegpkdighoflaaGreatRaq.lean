/- A part of the proof of DirPlays. -/
import Derived.Laws.Externs
import Derived.Test.YtlegpkdighoflaaGreatRam
set_option linter.unusedVariables false
set_option linter.unusedSimpArgs false
set_option maxRecDepth 100000
set_option maxHeartbeats 40000000
namespace Go.Proofs.YtlegpkdighoflaaGreat
open Go Go.RowKit Sh
section
theorem C3o (x y:UInt64):Op.intArith .sub .u64 (L6 x) (L6 y)=pure (.int .u64 (L6 (x-y))):=by
 unfold Op.intArith L6;have hx:=Oj x;have hy:=Oj y;have e:IntKind.u64.wrap ((x.toNat:Int)-(y.toNat:Int))=(((18446744073709551616-y.toNat+x.toNat) % 18446744073709551616:Nat):Int):=by
  simp only[IntKind.wrap,IntKind.bits,IntKind.signed,Bool.false_and,Bool.false_eq_true,if_false];omega
 rw[e,UInt64.toNat_sub]
attribute [go_sem ↓ high] C3o
noncomputable def A0x (v:Value):Option (List UInt64):=open Classical in if h:∃l,v=J3 l then some h.choose else none
theorem B4t {x y:UInt64} (h:Yq x=Yq y):x=y:=by
 unfold Yq at h;injection h with _ h;exact A8u h
theorem D1i {xs ys:List UInt64} (h:J3 xs=J3 ys):xs=ys:=by
 unfold J3 C9 at h;injection h with h;have h':(xs.map Yq)=(ys.map Yq):=by simpa using congrArg Array.toList h
 exact (List.map_inj_right fun _ _=>B4t).1 h'
theorem Ru (l:List UInt64):A0x (J3 l)=some l:=by
 have h:∃m,J3 l=J3 m:=⟨l,rfl⟩;unfold A0x;rw[dif_pos h];exact congrArg some (D1i h.choose_spec).symm
theorem Jz {v:Value} {l:List UInt64} (h:A0x v=some l):v=J3 l:=by
 unfold A0x at h;split at h
 ·rename_i hh
  injection h with h;rw[←h];exact hh.choose_spec
 ·cases h
@[go_sem] theorem E0d (t : TypeId) (w : World) (raw : Result Next) (l : List UInt64) : Xw t w raw (J3 l) = .ok (.value (.pointer (some ⟨w.heap.size, 0, none⟩))) (w.alloc (.cells (C9 l).toArray t)) := rfl
noncomputable def Zi (n:Nat) (w:World) (raw:Result Next) (v:Value):Result Next:=match A0x v with
 | some l=>if l.length=n then .ok (.value (J3 l)) w else raw
 | none=>raw
@[go_sem] theorem D9o (n : Nat) (w : World) (raw : Result Next) (l : List UInt64) (h : l.length = n) : Zi n w raw (J3 l) = .ok (.value (J3 l)) w := by
 unfold Zi;rw[Ru];simp[h]
noncomputable def Dm (v:Value):Option UInt64:=open Classical in if h:∃x,v=Yq x then some h.choose else none
theorem Gj (x:UInt64):Dm (.int .u64 (L6 x))=some x:=by
 have h:∃y,Yq x=Yq y:=⟨x,rfl⟩;show Dm (Yq x)=_;unfold Dm;rw[dif_pos h];exact congrArg some (B4t h.choose_spec).symm
theorem Fk {v:Value} {x:UInt64} (h:Dm v=some x):v=.int .u64 (L6 x):=by
 unfold Dm at h;split at h
 ·rename_i hh
  injection h with h;rw[←h];exact hh.choose_spec
 ·cases h
@[go_sem ↓ high] theorem E9w (x : UInt64) (k : IntKind) : Op.shift .shr .u64 (L6 x) k 4 = pure (.int .u64 (L6 (x >>> 4))) := Ex x k 4 (by decide)
@[go_sem ↓ high] theorem E9s (x : UInt64) (k : IntKind) : Op.shift .shl .u64 (L6 x) k 4 = pure (.int .u64 (L6 (x <<< 4))) := Fa x k 4 (by decide)
@[go_sem ↓ high] theorem E8y (x : UInt64) (k : IntKind) : Op.shift .shr .u64 (L6 x) k 5 = pure (.int .u64 (L6 (x >>> 5))) := Ex x k 5 (by decide)
@[go_sem ↓ high] theorem E9z (x : UInt64) (k : IntKind) : Op.shift .shl .u64 (L6 x) k 5 = pure (.int .u64 (L6 (x <<< 5))) := Fa x k 5 (by decide)
@[go_sem ↓ high] theorem E4e (x : UInt64) (k : IntKind) : Op.shift .shr .u64 (L6 x) k 12 = pure (.int .u64 (L6 (x >>> 12))) := Ex x k 12 (by decide)
@[go_sem ↓ high] theorem E4v (x : UInt64) (k : IntKind) : Op.shift .shl .u64 (L6 x) k 12 = pure (.int .u64 (L6 (x <<< 12))) := Fa x k 12 (by decide)
@[go_sem ↓ high] theorem E6x (x : UInt64) (k : IntKind) : Op.shift .shr .u64 (L6 x) k 13 = pure (.int .u64 (L6 (x >>> 13))) := Ex x k 13 (by decide)
@[go_sem ↓ high] theorem E6i (x : UInt64) (k : IntKind) : Op.shift .shl .u64 (L6 x) k 13 = pure (.int .u64 (L6 (x <<< 13))) := Fa x k 13 (by decide)
@[go_sem ↓ high] theorem E7l (x : UInt64) (k : IntKind) : Op.shift .shr .u64 (L6 x) k 25 = pure (.int .u64 (L6 (x >>> 25))) := Ex x k 25 (by decide)
@[go_sem ↓ high] theorem E6b (x : UInt64) (k : IntKind) : Op.shift .shl .u64 (L6 x) k 25 = pure (.int .u64 (L6 (x <<< 25))) := Fa x k 25 (by decide)
@[go_sem ↓ high] theorem E3n (x : UInt64) (k : IntKind) : Op.shift .shr .u64 (L6 x) k 26 = pure (.int .u64 (L6 (x >>> 26))) := Ex x k 26 (by decide)
@[go_sem ↓ high] theorem E6o (x : UInt64) (k : IntKind) : Op.shift .shl .u64 (L6 x) k 26 = pure (.int .u64 (L6 (x <<< 26))) := Fa x k 26 (by decide)
@[go_sem ↓ high] theorem E3v (x : UInt64) (k : IntKind) : Op.shift .shr .u64 (L6 x) k 38 = pure (.int .u64 (L6 (x >>> 38))) := Ex x k 38 (by decide)
@[go_sem ↓ high] theorem E6m (x : UInt64) (k : IntKind) : Op.shift .shl .u64 (L6 x) k 38 = pure (.int .u64 (L6 (x <<< 38))) := Fa x k 38 (by decide)
@[go_sem ↓ high] theorem E6q (x : UInt64) (k : IntKind) : Op.shift .shr .u64 (L6 x) k 39 = pure (.int .u64 (L6 (x >>> 39))) := Ex x k 39 (by decide)
@[go_sem ↓ high] theorem E4s (x : UInt64) (k : IntKind) : Op.shift .shl .u64 (L6 x) k 39 = pure (.int .u64 (L6 (x <<< 39))) := Fa x k 39 (by decide)
@[go_sem ↓ high] theorem E3u (x : UInt64) (k : IntKind) : Op.shift .shr .u64 (L6 x) k 51 = pure (.int .u64 (L6 (x >>> 51))) := Ex x k 51 (by decide)
@[go_sem ↓ high] theorem E3r (x : UInt64) (k : IntKind) : Op.shift .shl .u64 (L6 x) k 51 = pure (.int .u64 (L6 (x <<< 51))) := Fa x k 51 (by decide)
@[go_sem ↓ high] theorem E6k (x : UInt64) (k : IntKind) : Op.shift .shr .u64 (L6 x) k 60 = pure (.int .u64 (L6 (x >>> 60))) := Ex x k 60 (by decide)
@[go_sem ↓ high] theorem E3o (x : UInt64) (k : IntKind) : Op.shift .shl .u64 (L6 x) k 60 = pure (.int .u64 (L6 (x <<< 60))) := Fa x k 60 (by decide)
@[go_sem ↓ high] theorem E6w (x : UInt64) (k : IntKind) : Op.shift .shr .u64 (L6 x) k 63 = pure (.int .u64 (L6 (x >>> 63))) := Ex x k 63 (by decide)
@[go_sem ↓ high] theorem E8e (x : UInt64) (k : IntKind) : Op.shift .shl .u64 (L6 x) k 63 = pure (.int .u64 (L6 (x <<< 63))) := Fa x k 63 (by decide)
@[go_sem ↓ high] theorem F0a (x : UInt64) : Op.intBits .and .u64 (L6 x) 1 = pure (.int .u64 (L6 (x &&& 1))) := B8p x 1
@[go_sem ↓ high] theorem E5e (x : UInt64) : Op.intBits .and .u64 (L6 x) 15 = pure (.int .u64 (L6 (x &&& 15))) := B8p x 15
@[go_sem ↓ high] theorem C1v (x : UInt64) : Op.intBits .and .u64 (L6 x) 4294967295 = pure (.int .u64 (L6 (x &&& 4294967295))) := B8p x 4294967295
@[go_sem ↓ high] theorem A7p (x : UInt64) : Op.intBits .and .u64 (L6 x) 2251799813685247 = pure (.int .u64 (L6 (x &&& 2251799813685247))) := B8p x 2251799813685247
@[go_sem ↓ high] theorem F2v (x : UInt8) : Op.intBits .and .u8 (n8 x) 1 = pure (.int .u8 (n8 (x &&& 1))) := D0i x 1
@[go_sem ↓ high] theorem F0m (x : UInt8) : Op.intBits .and .u8 (n8 x) 15 = pure (.int .u8 (n8 (x &&& 15))) := D0i x 15
@[go_sem ↓ high] theorem E1z (x : UInt8) : Op.intBits .and .u8 (n8 x) 127 = pure (.int .u8 (n8 (x &&& 127))) := D0i x 127
@[go_sem ↓ high] theorem E5l (x : UInt8) : Op.intBits .and .u8 (n8 x) 248 = pure (.int .u8 (n8 (x &&& 248))) := D0i x 248
@[go_sem ↓ high] theorem F1f (x : UInt8) : Op.intBits .or .u8 (n8 x) 64 = pure (.int .u8 (n8 (x ||| 64))) := or8 x 64
@[go_sem ↓ high] theorem F0f (x : UInt8) : Op.intBits .or .u8 (n8 x) 128 = pure (.int .u8 (n8 (x ||| 128))) := or8 x 128
@[go_sem ↓ high] theorem F0c (x : UInt64) : Op.intArith .mul .u64 2 (L6 x) = pure (.int .u64 (L6 (2 * x))) := B1c 2 x
@[go_sem ↓ high] theorem E1s (x : UInt64) : Op.intArith .mul .u64 19 (L6 x) = pure (.int .u64 (L6 (19 * x))) := B1c 19 x
@[go_sem ↓ high] theorem E2k (x : UInt64) : Op.intArith .add .u64 (L6 x) 19 = pure (.int .u64 (L6 (x + 19))) := add64 x 19
@[go_sem ↓ high] theorem E5n (x : UInt64) : Op.intArith .sub .u64 (L6 x) 72 = pure (.int .u64 (L6 (x - 72))) := C3o x 72
@[go_sem ↓ high] theorem E2h (x : UInt64) : Op.intArith .sub .u64 9007199254740988 (L6 x) = pure (.int .u64 (L6 (9007199254740988 - x))) := C3o 9007199254740988 x
theorem B8q:(Tryz.prog.info? 136).map (·.size)=some 5:=by kernel_rfl
theorem D3w:((Tryz.prog.info? 136).bind (·.zero))=some (J3 (K9 5)):=by kernel_rfl
section
variable (w : World) (ρ : Operand → Value) (dst : Option Tmp) (ty : TypeId) (pos : String) (after : Array Edge) (guard : Option (Nat × Bool))
@[go_sem ↓ high] theorem F0i:RL' 136 5:=LL' Tryz.underlying136 B8q
@[go_sem ↓ high] theorem E2q:RS' 136 5:=SS' B8q
@[go_sem ↓ high] theorem E1v:RA' 136 (C9 (K9 5)).toArray:=fun w ρ dst ty pos after guard=>Z5 w ρ dst ty pos after guard 136 (J3 (K9 5)) D3w
@[go_sem ↓ high] theorem F1t:RB' 136:=BX' _
end
theorem Xt:(Tryz.prog.info? 182).map (·.size)=some 4:=by kernel_rfl
theorem D0w:((Tryz.prog.info? 182).bind (·.zero))=some (J3 (K9 4)):=by kernel_rfl
section
variable (w : World) (ρ : Operand → Value) (dst : Option Tmp) (ty : TypeId) (pos : String) (after : Array Edge) (guard : Option (Nat × Bool))
@[go_sem ↓ high] theorem E9f:RL' 182 4:=LL' Tryz.underlying182 Xt
@[go_sem ↓ high] theorem E1w:RS' 182 4:=SS' Xt
@[go_sem ↓ high] theorem E4o:RA' 182 (C9 (K9 4)).toArray:=fun w ρ dst ty pos after guard=>Z5 w ρ dst ty pos after guard 182 (J3 (K9 4)) D0w
@[go_sem ↓ high] theorem F2k:RB' 182:=BX' _
end
theorem Bn:(Tryz.prog.info? 138).map (·.size)=some 5:=by kernel_rfl
theorem B7q:((Tryz.prog.info? 138).bind (·.zero))=some (J3 (K9 5)):=by kernel_rfl
theorem U8:Tryz.prog.underlying 138=some (.struct (Ad Tryz.prog 138)):=by kernel_rfl
section
variable (w : World) (ρ : Operand → Value) (dst : Option Tmp) (ty : TypeId) (pos : String) (after : Array Edge) (guard : Option (Nat × Bool))
@[go_sem ↓ high] theorem E9m:RL' 138 5:=LL' U8 Bn
@[go_sem ↓ high] theorem E4t:RS' 138 5:=SS' Bn
@[go_sem ↓ high] theorem Cq:RA' 138 (C9 (K9 5)).toArray:=fun w ρ dst ty pos after guard=>Z5 w ρ dst ty pos after guard 138 (J3 (K9 5)) B7q
@[go_sem ↓ high] theorem F1k:RB' 138:=BX' _
end
theorem A1k:(Tryz.prog.info? 211).map (·.size)=some 2:=by kernel_rfl
theorem D3a:((Tryz.prog.info? 211).bind (·.zero))=some (J3 (K9 2)):=by kernel_rfl
theorem Zg:Tryz.prog.underlying 211=some (.struct (Ad Tryz.prog 211)):=by kernel_rfl
section
variable (w : World) (ρ : Operand → Value) (dst : Option Tmp) (ty : TypeId) (pos : String) (after : Array Edge) (guard : Option (Nat × Bool))
@[go_sem ↓ high] theorem E8g:RL' 211 2:=LL' Zg A1k
@[go_sem ↓ high] theorem E1q:RS' 211 2:=SS' A1k
@[go_sem ↓ high] theorem E1n:RA' 211 (C9 (K9 2)).toArray:=fun w ρ dst ty pos after guard=>Z5 w ρ dst ty pos after guard 211 (J3 (K9 2)) D3a
@[go_sem ↓ high] theorem F2c:RB' 211:=BX' _
end
theorem Lj:(Tryz.prog.info? 184).map (·.size)=some 4:=by kernel_rfl
theorem B8j:((Tryz.prog.info? 184).bind (·.zero))=some (J3 (K9 4)):=by kernel_rfl
theorem Hg:Tryz.prog.underlying 184=some (.struct (Ad Tryz.prog 184)):=by kernel_rfl
section
variable (w : World) (ρ : Operand → Value) (dst : Option Tmp) (ty : TypeId) (pos : String) (after : Array Edge) (guard : Option (Nat × Bool))
@[go_sem ↓ high] theorem E8n:RL' 184 4:=LL' Hg Lj
@[go_sem ↓ high] theorem E7y:RS' 184 4:=SS' Lj
@[go_sem ↓ high] theorem B1h:RA' 184 (C9 (K9 4)).toArray:=fun w ρ dst ty pos after guard=>Z5 w ρ dst ty pos after guard 184 (J3 (K9 4)) B8j
@[go_sem ↓ high] theorem F3a:RB' 184:=BX' _
end
theorem Ey:(Tryz.prog.info? 140).map (·.size)=some 20:=by kernel_rfl
theorem B8z:((Tryz.prog.info? 140).bind (·.zero))=some (J3 (K9 20)):=by kernel_rfl
theorem Bg:Tryz.prog.underlying 140=some (.struct (Ad Tryz.prog 140)):=by kernel_rfl
section
variable (w : World) (ρ : Operand → Value) (dst : Option Tmp) (ty : TypeId) (pos : String) (after : Array Edge) (guard : Option (Nat × Bool))
@[go_sem ↓ high] theorem E9j:RL' 140 20:=LL' Bg Ey
@[go_sem ↓ high] theorem E5v:RS' 140 20:=SS' Ey
@[go_sem ↓ high] theorem E2o:RA' 140 (C9 (K9 20)).toArray:=fun w ρ dst ty pos after guard=>Z5 w ρ dst ty pos after guard 140 (J3 (K9 20)) B8z
@[go_sem ↓ high] theorem F1h:RB' 140:=BX' _
end
theorem A3g:(Tryz.prog.info? 177).map (·.size)=some 320:=by kernel_rfl
theorem C3j:((Tryz.prog.info? 177).bind (·.zero))=some (J3 (K9 320)):=by kernel_rfl
section
variable (w : World) (ρ : Operand → Value) (dst : Option Tmp) (ty : TypeId) (pos : String) (after : Array Edge) (guard : Option (Nat × Bool))
@[go_sem ↓ high] theorem E5i:RL' 177 320:=LL' Tryz.underlying177 A3g
@[go_sem ↓ high] theorem E1c:RS' 177 320:=SS' A3g
@[go_sem ↓ high] theorem A5s:RA' 177 (C9 (K9 320)).toArray:=fun w ρ dst ty pos after guard=>Z5 w ρ dst ty pos after guard 177 (J3 (K9 320)) C3j
@[go_sem ↓ high] theorem E9o:RB' 177:=BX' _
end
theorem A2j:(Tryz.prog.info? 205).map (·.size)=some 640:=by kernel_rfl
theorem C8y:((Tryz.prog.info? 205).bind (·.zero))=some (J3 (K9 640)):=by kernel_rfl
section
variable (w : World) (ρ : Operand → Value) (dst : Option Tmp) (ty : TypeId) (pos : String) (after : Array Edge) (guard : Option (Nat × Bool))
@[go_sem ↓ high] theorem E7i:RL' 205 640:=LL' Tryz.underlying205 A2j
@[go_sem ↓ high] theorem E1i:RS' 205 640:=SS' A2j
@[go_sem ↓ high] theorem E0z:RA' 205 (C9 (K9 640)).toArray:=fun w ρ dst ty pos after guard=>Z5 w ρ dst ty pos after guard 205 (J3 (K9 640)) C8y
@[go_sem ↓ high] theorem E9u:RB' 205:=BX' _
end
theorem B2p (w:World):(Instr.build 136 #[]).run Tryz.prog w=.ok (J3 (K9 5)) w:=by kernel_rfl
@[go_sem ↓ high] theorem E1j (w : World) (ρ : Operand → Value) (dst : Option Tmp) (ty : TypeId) (pos : String) (after : Array Edge) (guard : Option (Nat × Bool)) :
 (execOp ρ { dst,op:=.build 136 #[],type:=ty,pos,after,guard }).run Tryz.prog w=.ok (.value (J3 (K9 5))) w:=
 U9 w ρ dst ty pos after guard _ _ _ (by simp only[List.map_toArray,List.map_nil];exact B2p w)
theorem B1m (w:World):(Instr.build 182 #[]).run Tryz.prog w=.ok (J3 (K9 4)) w:=by kernel_rfl
@[go_sem ↓ high] theorem E1h (w : World) (ρ : Operand → Value) (dst : Option Tmp) (ty : TypeId) (pos : String) (after : Array Edge) (guard : Option (Nat × Bool)) :
 (execOp ρ { dst,op:=.build 182 #[],type:=ty,pos,after,guard }).run Tryz.prog w=.ok (.value (J3 (K9 4))) w:=
 U9 w ρ dst ty pos after guard _ _ _ (by simp only[List.map_toArray,List.map_nil];exact B1m w)
theorem A8c (w:World):(Instr.build 155 #[]).run Tryz.prog w=.ok (J3 (K9 8)) w:=by kernel_rfl
@[go_sem ↓ high] theorem D5u (w : World) (ρ : Operand → Value) (dst : Option Tmp) (ty : TypeId) (pos : String) (after : Array Edge) (guard : Option (Nat × Bool)) :
 (execOp ρ { dst,op:=.build 155 #[],type:=ty,pos,after,guard }).run Tryz.prog w=.ok (.value (J3 (K9 8))) w:=
 U9 w ρ dst ty pos after guard _ _ _ (by simp only[List.map_toArray,List.map_nil];exact A8c w)
theorem B0m (w:World):(Instr.build 138 #[]).run Tryz.prog w=.ok (J3 (K9 5)) w:=by kernel_rfl
@[go_sem ↓ high] theorem E0p (w : World) (ρ : Operand → Value) (dst : Option Tmp) (ty : TypeId) (pos : String) (after : Array Edge) (guard : Option (Nat × Bool)) :
 (execOp ρ { dst,op:=.build 138 #[],type:=ty,pos,after,guard }).run Tryz.prog w=.ok (.value (J3 (K9 5))) w:=
 U9 w ρ dst ty pos after guard _ _ _ (by simp only[List.map_toArray,List.map_nil];exact B0m w)
theorem B1q (w:World):(Instr.build 184 #[]).run Tryz.prog w=.ok (J3 (K9 4)) w:=by kernel_rfl
@[go_sem ↓ high] theorem E0q (w : World) (ρ : Operand → Value) (dst : Option Tmp) (ty : TypeId) (pos : String) (after : Array Edge) (guard : Option (Nat × Bool)) :
 (execOp ρ { dst,op:=.build 184 #[],type:=ty,pos,after,guard }).run Tryz.prog w=.ok (.value (J3 (K9 4))) w:=
 U9 w ρ dst ty pos after guard _ _ _ (by simp only[List.map_toArray,List.map_nil];exact B1q w)
theorem B0e (w:World):(Instr.build 140 #[]).run Tryz.prog w=.ok (J3 (K9 20)) w:=by kernel_rfl
@[go_sem ↓ high] theorem E0g (w : World) (ρ : Operand → Value) (dst : Option Tmp) (ty : TypeId) (pos : String) (after : Array Edge) (guard : Option (Nat × Bool)) :
 (execOp ρ { dst,op:=.build 140 #[],type:=ty,pos,after,guard }).run Tryz.prog w=.ok (.value (J3 (K9 20))) w:=
 U9 w ρ dst ty pos after guard _ _ _ (by simp only[List.map_toArray,List.map_nil];exact B0e w)
theorem C0w (w:World):(Ig (Ad Tryz.prog 138)).run Tryz.prog w=.ok #[(0,5)] w:=by kernel_rfl
theorem B1f (l:List UInt64) (h:l.length=5) (w:World):(Instr.build 138 #[(0,J3 l)]).run Tryz.prog w=.ok (J3 l) w:=by
 have hz:(J3 (K9 5)).cells.toList=C9 (K9 5):=rfl;have h1:=Ay U8 B7q w (C0w w) #[(0,J3 l)] [(0,C9 l)] (by
  rw[hz];exact ⟨by simp[h],rfl,by simp[h],trivial⟩)
 refine h1.trans (congrArg (fun (cs:List Value)=>Result.ok (Value.agg cs.toArray) w) ?_);rw[hz];simp[Jq,Cz,h,List.drop_eq_nil_of_le,C9]
@[go_sem ↓ high] theorem E7d (w : World) (ρ : Operand → Value) (dst : Option Tmp) (ty : TypeId) (pos : String) (after : Array Edge) (guard : Option (Nat × Bool)) (x : Operand) :
 (execOp ρ { dst,op:=.build 138 #[(0,x)],type:=ty,pos,after,guard }).run Tryz.prog w=Zi 5 w (T9 Tryz.prog ρ { dst,op:=.build 138 #[(0,x)],type:=ty,pos,after,guard } w) (ρ x):=by
 generalize hx:ρ x=a;unfold Zi;split
 ·rename_i l hl
  replace hl:=Jz hl;split
  ·rename_i h
   refine U9 w ρ dst ty pos after guard _ _ _ ?_;simp only[List.map_toArray,List.map_cons,List.map_nil,hx,hl];exact B1f l h w
  ·rfl
 ·rfl
theorem C2q (w:World):(Ig (Ad Tryz.prog 184)).run Tryz.prog w=.ok #[(0,4)] w:=by kernel_rfl
theorem B3v (l:List UInt64) (h:l.length=4) (w:World):(Instr.build 184 #[(0,J3 l)]).run Tryz.prog w=.ok (J3 l) w:=by
 have hz:(J3 (K9 4)).cells.toList=C9 (K9 4):=rfl;have h1:=Ay Hg B8j w (C2q w) #[(0,J3 l)] [(0,C9 l)] (by
  rw[hz];exact ⟨by simp[h],rfl,by simp[h],trivial⟩)
 refine h1.trans (congrArg (fun (cs:List Value)=>Result.ok (Value.agg cs.toArray) w) ?_);rw[hz];simp[Jq,Cz,h,List.drop_eq_nil_of_le,C9]
@[go_sem ↓ high] theorem E1m (w : World) (ρ : Operand → Value) (dst : Option Tmp) (ty : TypeId) (pos : String) (after : Array Edge) (guard : Option (Nat × Bool)) (x : Operand) :
 (execOp ρ { dst,op:=.build 184 #[(0,x)],type:=ty,pos,after,guard }).run Tryz.prog w=Zi 4 w (T9 Tryz.prog ρ { dst,op:=.build 184 #[(0,x)],type:=ty,pos,after,guard } w) (ρ x):=by
 generalize hx:ρ x=a;unfold Zi;split
 ·rename_i l hl
  replace hl:=Jz hl;split
  ·rename_i h
   refine U9 w ρ dst ty pos after guard _ _ _ ?_;simp only[List.map_toArray,List.map_cons,List.map_nil,hx,hl];exact B3v l h w
  ·rfl
 ·rfl
theorem A9h (x0 x1 x2 x3 x4:UInt64) (w:World):(Instr.build 136 #[(0,.int .u64 (L6 x0)),(1,.int .u64 (L6 x1)),(2,.int .u64 (L6 x2)),(3,.int .u64 (L6 x3)),(4,.int .u64 (L6 x4))]).run Tryz.prog w=.ok (J3 [x0,x1,x2,x3,x4]) w:=by kernel_rfl
noncomputable def Pw (w:World) (raw:Result Next) (v0 v1 v2 v3 v4:Value):Result Next:=match Dm v0,Dm v1,Dm v2,Dm v3,Dm v4 with
 | some x0,some x1,some x2,some x3,some x4=>.ok (.value (J3 [x0,x1,x2,x3,x4])) w
 | _,_,_,_,_=>raw
@[go_sem] theorem D4k (w : World) (raw : Result Next) (x0 x1 x2 x3 x4 : UInt64) : Pw w raw (.int .u64 (L6 x0)) (.int .u64 (L6 x1)) (.int .u64 (L6 x2)) (.int .u64 (L6 x3)) (.int .u64 (L6 x4)) = .ok (.value (J3 [x0, x1, x2, x3, x4])) w := by
 unfold Pw;simp only[Gj]
@[go_sem ↓ high] theorem E0k (w : World) (ρ : Operand → Value) (dst : Option Tmp) (ty : TypeId) (pos : String) (after : Array Edge) (guard : Option (Nat × Bool)) (x0 x1 x2 x3 x4 : Operand) :
 (execOp ρ { dst,op:=.build 136 #[(0,x0),(1,x1),(2,x2),(3,x3),(4,x4)],type:=ty,pos,after,guard }).run Tryz.prog w=Pw w (T9 Tryz.prog ρ { dst,op:=.build 136 #[(0,x0),(1,x1),(2,x2),(3,x3),(4,x4)],type:=ty,pos,after,guard } w) (ρ x0) (ρ x1) (ρ x2) (ρ x3) (ρ x4):=by
 generalize h0:ρ x0=v0;generalize h1:ρ x1=v1;generalize h2:ρ x2=v2;generalize h3:ρ x3=v3;generalize h4:ρ x4=v4;unfold Pw;split
 ·rename_i y0 y1 y2 y3 y4 g0 g1 g2 g3 g4
  refine U9 w ρ dst ty pos after guard _ _ _ ?_;simp only[List.map_toArray,List.map_cons,List.map_nil,h0,Fk g0,h1,Fk g1,h2,Fk g2,h3,Fk g3,h4,Fk g4];exact A9h y0 y1 y2 y3 y4 w
 ·rfl
theorem A7r (x0 x1 x2 x3:UInt64) (w:World):(Instr.build 182 #[(0,.int .u64 (L6 x0)),(1,.int .u64 (L6 x1)),(2,.int .u64 (L6 x2)),(3,.int .u64 (L6 x3))]).run Tryz.prog w=.ok (J3 [x0,x1,x2,x3]) w:=by kernel_rfl
noncomputable def Pi (w:World) (raw:Result Next) (v0 v1 v2 v3:Value):Result Next:=match Dm v0,Dm v1,Dm v2,Dm v3 with
 | some x0,some x1,some x2,some x3=>.ok (.value (J3 [x0,x1,x2,x3])) w
 | _,_,_,_=>raw
@[go_sem] theorem D4q (w : World) (raw : Result Next) (x0 x1 x2 x3 : UInt64) : Pi w raw (.int .u64 (L6 x0)) (.int .u64 (L6 x1)) (.int .u64 (L6 x2)) (.int .u64 (L6 x3)) = .ok (.value (J3 [x0, x1, x2, x3])) w := by
 unfold Pi;simp only[Gj]
@[go_sem ↓ high] theorem D9t (w : World) (ρ : Operand → Value) (dst : Option Tmp) (ty : TypeId) (pos : String) (after : Array Edge) (guard : Option (Nat × Bool)) (x0 x1 x2 x3 : Operand) :
 (execOp ρ { dst,op:=.build 182 #[(0,x0),(1,x1),(2,x2),(3,x3)],type:=ty,pos,after,guard }).run Tryz.prog w=Pi w (T9 Tryz.prog ρ { dst,op:=.build 182 #[(0,x0),(1,x1),(2,x2),(3,x3)],type:=ty,pos,after,guard } w) (ρ x0) (ρ x1) (ρ x2) (ρ x3):=by
 generalize h0:ρ x0=v0;generalize h1:ρ x1=v1;generalize h2:ρ x2=v2;generalize h3:ρ x3=v3;unfold Pi;split
 ·rename_i y0 y1 y2 y3 g0 g1 g2 g3
  refine U9 w ρ dst ty pos after guard _ _ _ ?_;simp only[List.map_toArray,List.map_cons,List.map_nil,h0,Fk g0,h1,Fk g1,h2,Fk g2,h3,Fk g3];exact A7r y0 y1 y2 y3 w
 ·rfl
theorem A7q (x0 x1:UInt64) (w:World):(Instr.build 211 #[(0,.int .u64 (L6 x0)),(1,.int .u64 (L6 x1))]).run Tryz.prog w=.ok (J3 [x0,x1]) w:=by kernel_rfl
noncomputable def Xi (w:World) (raw:Result Next) (v0 v1:Value):Result Next:=match Dm v0,Dm v1 with
 | some x0,some x1=>.ok (.value (J3 [x0,x1])) w
 | _,_=>raw
@[go_sem] theorem D5g (w : World) (raw : Result Next) (x0 x1 : UInt64) : Xi w raw (.int .u64 (L6 x0)) (.int .u64 (L6 x1)) = .ok (.value (J3 [x0, x1])) w := by
 unfold Xi;simp only[Gj]
@[go_sem ↓ high] theorem D9l (w : World) (ρ : Operand → Value) (dst : Option Tmp) (ty : TypeId) (pos : String) (after : Array Edge) (guard : Option (Nat × Bool)) (x0 x1 : Operand) :
 (execOp ρ { dst,op:=.build 211 #[(0,x0),(1,x1)],type:=ty,pos,after,guard }).run Tryz.prog w=Xi w (T9 Tryz.prog ρ { dst,op:=.build 211 #[(0,x0),(1,x1)],type:=ty,pos,after,guard } w) (ρ x0) (ρ x1):=by
 generalize h0:ρ x0=v0;generalize h1:ρ x1=v1;unfold Xi;split
 ·rename_i y0 y1 g0 g1
  refine U9 w ρ dst ty pos after guard _ _ _ ?_;simp only[List.map_toArray,List.map_cons,List.map_nil,h0,Fk g0,h1,Fk g1];exact A7q y0 y1 w
 ·rfl
theorem B4u (x0 x1:UInt64) (w:World):(Instr.build 136 #[(0,.int .u64 (L6 x0)),(1,.int .u64 (L6 x1))]).run Tryz.prog w=.ok (J3 [x0,x1,0,0,0]) w:=by kernel_rfl
noncomputable def A9g (w:World) (raw:Result Next) (v0 v1:Value):Result Next:=match Dm v0,Dm v1 with
 | some x0,some x1=>.ok (.value (J3 [x0,x1,0,0,0])) w
 | _,_=>raw
@[go_sem] theorem E0u (w : World) (raw : Result Next) (x0 x1 : UInt64) : A9g w raw (.int .u64 (L6 x0)) (.int .u64 (L6 x1)) = .ok (.value (J3 [x0, x1, 0, 0, 0])) w := by
 unfold A9g;simp only[Gj]
@[go_sem ↓ high] theorem F0q (w : World) (ρ : Operand → Value) (dst : Option Tmp) (ty : TypeId) (pos : String) (after : Array Edge) (guard : Option (Nat × Bool)) (x0 x1 : Operand) :
 (execOp ρ { dst,op:=.build 136 #[(0,x0),(1,x1)],type:=ty,pos,after,guard }).run Tryz.prog w=A9g w (T9 Tryz.prog ρ { dst,op:=.build 136 #[(0,x0),(1,x1)],type:=ty,pos,after,guard } w) (ρ x0) (ρ x1):=by
 generalize h0:ρ x0=v0;generalize h1:ρ x1=v1;unfold A9g;split
 ·rename_i y0 y1 g0 g1
  refine U9 w ρ dst ty pos after guard _ _ _ ?_;simp only[List.map_toArray,List.map_cons,List.map_nil,h0,h1,Fk g0,Fk g1];exact B4u y0 y1 w
 ·rfl
def Rq (x y z t:List UInt64):List UInt64:=x++(y++(z++t))
theorem Bi {x y z t:List UInt64} (hx:x.length=5) (hy:y.length=5) (hz:z.length=5) (ht:t.length=5):(Rq x y z t).length=20:=by simp[Rq,hx,hy,hz,ht]
noncomputable def D0j (w:World) (raw:Result Next) (a b c d:Value):Result Next:=match A0x a,A0x b,A0x c,A0x d with
 | some x,some y,some z,some t=>if x.length=5∧y.length=5∧z.length=5∧t.length=5 then .ok (.value (J3 (Rq x y z t))) w else raw
 | _,_,_,_=>raw
theorem C1o (w:World):(Ig (Ad Tryz.prog 140)).run Tryz.prog w=.ok #[(0,5),(5,5),(10,5),(15,5)] w:=by kernel_rfl
theorem D8d (x y z t:List UInt64) (hx:x.length=5) (hy:y.length=5) (hz:z.length=5) (ht:t.length=5) (w:World):(Instr.build 140 #[(0,J3 x),(1,J3 y),(2,J3 z),(3,J3 t)]).run Tryz.prog w=.ok (J3 (Rq x y z t)) w:=by
 have aA:(J3 (K9 20)).cells.toList=C9 (K9 20):=rfl;have h1:=Ay Bg B8z w (C1o w) #[(0,J3 x),(1,J3 y),(2,J3 z),(3,J3 t)] [(0,C9 x),(5,C9 y),(10,C9 z),(15,C9 t)] (by
  rw[aA];exact ⟨by simp[hx],rfl,by simp[hx],by simp[hy],rfl,by simp[hy],by simp[hz],rfl,by simp[hz],by simp[ht],rfl,by simp[ht],trivial⟩)
 refine h1.trans (congrArg (fun (cs:List Value)=>Result.ok (Value.agg cs.toArray) w) ?_);rw[aA];simp[Jq,Cz,hx,hy,hz,ht,List.take_append,List.drop_append,List.drop_eq_nil_of_le,List.take_of_length_le,Rq,C9]
@[go_sem ↓ high] theorem E6j (w : World) (ρ : Operand → Value) (dst : Option Tmp) (ty : TypeId) (pos : String) (after : Array Edge) (guard : Option (Nat × Bool)) (x y z t : Operand) :
 (execOp ρ { dst,op:=.build 140 #[(0,x),(1,y),(2,z),(3,t)],type:=ty,pos,after,guard }).run Tryz.prog w=D0j w (T9 Tryz.prog ρ { dst,op:=.build 140 #[(0,x),(1,y),(2,z),(3,t)],type:=ty,pos,after,guard } w) (ρ x) (ρ y) (ρ z) (ρ t):=by
 generalize h0:ρ x=a;generalize h1:ρ y=b;generalize h2:ρ z=c;generalize h3:ρ t=d;unfold D0j;split
 ·rename_i x' y' z' t' g0 g1 g2 g3
  replace g0:=Jz g0;replace g1:=Jz g1;replace g2:=Jz g2;replace g3:=Jz g3;split
  ·rename_i h
   refine U9 w ρ dst ty pos after guard _ _ _ ?_;simp only[List.map_toArray,List.map_cons,List.map_nil,h0,h1,h2,h3,g0,g1,g2,g3];exact D8d x' y' z' t' h.1 h.2.1 h.2.2.1 h.2.2.2 w
  ·rfl
 ·rfl
section
variable {w : World} {g : Nat} {tt : TypeId} {x y z t : List UInt64}
end
theorem Bk.row64 {w:World} {g:Nat} {t:TypeId} {l:List UInt64} {n:Nat} (h:Bk w g t (C9 l)) (hl:l.length=n):J0 w ⟨g,0,none⟩ n=some (C9 l):=by have:=h.rows;rwa [Ga,hl]at this
theorem Bk.fresh64 (w:World) (t:TypeId) {l m:List UInt64} (h:l.length=m.length):Bk (E0 (w.alloc (.cells (C9 l).toArray t)) ⟨w.heap.size,0,none⟩ (C9 m)) w.heap.size t (C9 m):=(Bk.new w t (C9 l)).puts (by simp[h])
theorem Db (W:World) (t:TypeId) (l:List UInt64) (n N:Nat) (hl:l.length=n) (hN:W.heap.size=N):U7 (W.alloc (Obj.cells (C9 l).toArray t)) ⟨N,0,none⟩ n=true:=by
 subst hl hN;exact (Bk.new W t (C9 l)).can (by simp)
def Za (x y c:UInt64):UInt64:=x+y+c
def A0w (x y c:UInt64):UInt64:=UInt64.ofNat ((x.toNat+y.toNat+c.toNat) / 18446744073709551616)
def B9y (x y b:UInt64):UInt64:=x-y-b
def C2r (x y b:UInt64):UInt64:=if x.toNat<y.toNat+b.toNat then 1 else 0
theorem B3q (x y c:UInt64) (hc:c.toNat≤1) (w:World):(callFunc 136 #[.int .u64 (L6 x),.int .u64 (L6 y),.int .u64 (L6 c)]).run Tryz.prog w=.ok (.value (.tuple #[.int .u64 (L6 (Za x y c)),.int .u64 (L6 (A0w x y c))])) w:=by
 have hx:=Oj x;have hy:=Oj y;rw[run_callFunc_extern (fn:=Tryz.f136) Tryz.func136 (by kernel_rfl) (by kernel_rfl) (by kernel_rfl) (e:=add64Entry) (by kernel_rfl)];unfold L6;rw[run_add64 _ _ _ (by omega) (by omega) (by omega) (by omega)];have e1:(Za x y c).toNat=(x.toNat+y.toNat+c.toNat) % 18446744073709551616:=by unfold Za;rw[UInt64.toNat_add,UInt64.toNat_add];omega
 have e2:(A0w x y c).toNat=(x.toNat+y.toNat+c.toNat) / 18446744073709551616:=by unfold A0w;rw[UInt64.toNat_ofNat'];omega
 simp only[Result.andThen_ok];rw[e1,e2];congr 6<;>omega
theorem B5y (x y b:Nat) (hb:b≤1) (e:Array Value→Sem Value) (he:e=fun args=>do
 let (x, y, b) ← Extern.MathBitsCarry.three "Sub64" args
 pure (Extern.MathBitsCarry.pair ((x+Extern.MathBitsCarry.m64-y-b) % Extern.MathBitsCarry.m64) (if x<y+b then 1 else 0))) (w:World) :
 (e #[.int .u64 x,.int .u64 y,.int .u64 b]).run Tryz.prog w =
  .ok (.tuple #[.int .u64 (((x+18446744073709551616-y-b) % 18446744073709551616:Nat):Int),.int .u64 ((if x<y+b then 1 else 0:Nat):Int)]) w:=by
 subst he;have:b=0∨b=1:=by omega
 rcases this with rfl | rfl<;>rfl
theorem C4b (x y c:UInt64) (hc:c.toNat≤1) (w:World):(callFunc 151 #[.int .u64 (L6 x),.int .u64 (L6 y),.int .u64 (L6 c)]).run Tryz.prog w=.ok (.value (.tuple #[.int .u64 (L6 (B9y x y c)),.int .u64 (L6 (C2r x y c))])) w:=by
 have hx:=Oj x;have hy:=Oj y;rw[run_callFunc_extern (fn:=Tryz.f151) Tryz.func151 (by kernel_rfl) (by kernel_rfl) (by kernel_rfl) (e:=fun args=>do
  let (x, y, b) ← Extern.MathBitsCarry.three "Sub64" args
  pure (Extern.MathBitsCarry.pair ((x+Extern.MathBitsCarry.m64-y-b) % Extern.MathBitsCarry.m64) (if x<y+b then 1 else 0))) (by kernel_rfl)]
 unfold L6;rw[B5y _ _ _ hc _ rfl];have e1:(B9y x y c).toNat=(x.toNat+18446744073709551616-y.toNat-c.toNat) % 18446744073709551616:=by
  unfold B9y;rw[UInt64.toNat_sub,UInt64.toNat_sub];omega
 have e2:(C2r x y c).toNat=(if x.toNat<y.toNat+c.toNat then 1 else 0):=by unfold C2r;split<;>rfl
 simp only[Result.andThen_ok];rw[e1,e2]
attribute [go_sem] B3q C4b
@[go_sem] theorem D9p (x y : UInt64) (w : World) : (callFunc 136 #[.int .u64 (L6 x), .int .u64 (L6 y), .int .u64 0]).run Tryz.prog w = .ok (.value (.tuple #[.int .u64 (L6 (Za x y 0)), .int .u64 (L6 (A0w x y 0))])) w := B3q x y 0 (by decide) w
@[go_sem] theorem B7w (x y c : UInt64) (hc : c.toNat ≤ 1) : (A0w x y c).toNat ≤ 1 := by
 have hx:=Oj x;have hy:=Oj y;unfold A0w;rw[UInt64.toNat_ofNat'];omega
@[go_sem] theorem E4g (x y : UInt64) : (A0w x y 0).toNat ≤ 1 := B7w x y 0 (by decide)
@[go_sem] theorem D2z (x y c : UInt64) : (C2r x y c).toNat ≤ 1 := by
 unfold C2r;split<;>decide
def B3l (x y:UInt64):UInt64:=UInt64.ofNat (x.toNat*y.toNat / 18446744073709551616)
end
def C8s (x y:UInt64):UInt64:=
 let x0:=x &&& 4294967295
 let x1:=x >>> 32
 let y0:=y &&& 4294967295
 let y1:=y >>> 32
 let w0:=x0*y0
 let t:=x1*y0+w0 >>> 32
 let w1:=(t &&& 4294967295)+x0*y1
 x1*y1+t >>> 32+w1 >>> 32
theorem C6o (a b c d:Nat) (ha:a<4294967296) (hb:b<4294967296) (hc:c<4294967296) (hd:d<4294967296) :
 b*d+(b*c+a*c / 4294967296) / 4294967296+((b*c+a*c / 4294967296) % 4294967296+a*d) / 4294967296=(a+4294967296*b)*(c+4294967296*d) / 18446744073709551616:=by
 have e:(a+4294967296*b)*(c+4294967296*d)=a*c+4294967296*(b*c)+4294967296*(a*d)+18446744073709551616*(b*d):=by
  simp only[Nat.add_mul,Nat.mul_add];have e1:a*(4294967296*d)=4294967296*(a*d):=by rw[Nat.mul_left_comm]
  have e2:4294967296*b*c=4294967296*(b*c):=Nat.mul_assoc _ _ _;have e3:4294967296*b*(4294967296*d)=18446744073709551616*(b*d):=by rw[Nat.mul_assoc,Nat.mul_left_comm b];rw[←Nat.mul_assoc]
  rw[e1,e2,e3];omega
 rw[e];generalize a*c=p;generalize b*c=q;generalize a*d=r;generalize b*d=s;omega
theorem C2l (x y:UInt64):C8s x y=B3l x y:=by
 apply UInt64.toNat_inj.1;have hx:=Oj x;have hy:=Oj y;have aD:x.toNat % 4294967296<4294967296:=Nat.mod_lt _ (by decide);have aE:x.toNat / 4294967296<4294967296:=by omega
 have aF:y.toNat % 4294967296<4294967296:=Nat.mod_lt _ (by decide);have aG:y.toNat / 4294967296<4294967296:=by omega
 have aA:=C6o _ _ _ _ aD aE aF aG;have ex:x.toNat % 4294967296+4294967296*(x.toNat / 4294967296)=x.toNat:=by omega
 have ey:y.toNat % 4294967296+4294967296*(y.toNat / 4294967296)=y.toNat:=by omega
 rw[ex,ey]at aA;have b1:(x.toNat / 4294967296)*(y.toNat % 4294967296)≤4294967295*4294967295:=Nat.mul_le_mul (by omega) (by omega);have b2:(x.toNat % 4294967296)*(y.toNat % 4294967296)≤4294967295*4294967295:=Nat.mul_le_mul (by omega) (by omega);have b3:(x.toNat % 4294967296)*(y.toNat / 4294967296)≤4294967295*4294967295:=Nat.mul_le_mul (by omega) (by omega);have b4:(x.toNat / 4294967296)*(y.toNat / 4294967296)≤4294967295*4294967295:=Nat.mul_le_mul (by omega) (by omega);have aB:∀z:UInt64,(z &&& 4294967295).toNat=z.toNat % 4294967296:=fun z=>by
  rw[UInt64.toNat_and];exact Nat.and_two_pow_sub_one_eq_mod z.toNat 32
 have aC:∀z:UInt64,(z >>> 32).toNat=z.toNat / 4294967296:=fun z=>by
  rw[UInt64.toNat_shiftRight];exact Nat.shiftRight_eq_div_pow z.toNat 32
 unfold C8s B3l;simp only[UInt64.toNat_add,UInt64.toNat_mul,aB,aC,UInt64.toNat_ofNat'];have hk:x.toNat*y.toNat / 18446744073709551616<18446744073709551616:=by
  have:x.toNat*y.toNat<18446744073709551616*18446744073709551616:=Nat.mul_lt_mul'' hx hy;omega
 rw[←aA]at hk ⊢;generalize (x.toNat / 4294967296)*(y.toNat % 4294967296)=q at *;generalize (x.toNat % 4294967296)*(y.toNat % 4294967296)=p at *;generalize (x.toNat % 4294967296)*(y.toNat / 4294967296)=r at *;generalize (x.toNat / 4294967296)*(y.toNat / 4294967296)=s at *;clear aA ex ey aB aC;omega
theorem Ys (x y:UInt64) (w:World):Calls Tryz.prog 138 #[.int .u64 (L6 x),.int .u64 (L6 y)] w fun e w'=>e=.returned (.tuple #[.int .u64 (L6 (B3l x y)),.int .u64 (L6 (x*y))])∧w'=w:=by
 rw[←C2l];go_enter Tryz.func138,Tryz.ntmps138;go_wp2;go_ret2
 exact ⟨rfl,rfl⟩
def Cp (x y:UInt64):List UInt64:=[B3l x y,x*y]
@[simp, go_sem] theorem D5p (x y : UInt64) : (Cp x y).length = 2 := rfl
def N9 (p:List UInt64) (x y:UInt64):List UInt64:=[Za (B3l x y) (F9 p 0) (A0w (x*y) (F9 p 1) 0),Za (x*y) (F9 p 1) 0]
@[simp, go_sem] theorem D1u (p : List UInt64) (x y : UInt64) : (N9 p x y).length = 2 := rfl
def over (p:List UInt64):UInt64:=F9 p 0 <<< 13 ||| F9 p 1 >>> (51:UInt64)
def Ia (a:List UInt64):List UInt64:=[(F9 a 0 &&& (2251799813685247:UInt64))+19*(F9 a 4 >>> (51:UInt64)),(F9 a 1 &&& (2251799813685247:UInt64))+F9 a 0 >>> (51:UInt64),(F9 a 2 &&& (2251799813685247:UInt64))+F9 a 1 >>> (51:UInt64),(F9 a 3 &&& (2251799813685247:UInt64))+F9 a 2 >>> (51:UInt64),(F9 a 4 &&& (2251799813685247:UInt64))+F9 a 3 >>> (51:UInt64)]
@[simp, go_sem] theorem C7y (a : List UInt64) : (Ia a).length = 5 := rfl
def C4r (t0 t1 t2 t3 t4:List UInt64):List UInt64:=[(F9 t0 1 &&& (2251799813685247:UInt64))+19*over t4,(F9 t1 1 &&& (2251799813685247:UInt64))+over t0,(F9 t2 1 &&& (2251799813685247:UInt64))+over t1,(F9 t3 1 &&& (2251799813685247:UInt64))+over t2,(F9 t4 1 &&& (2251799813685247:UInt64))+over t3]
@[simp, go_sem] theorem D5m (t0 t1 t2 t3 t4 : List UInt64) : (C4r t0 t1 t2 t3 t4).length = 5 := rfl
def Qc (t0 t1 t2 t3 t4:List UInt64):List UInt64:=Ia (C4r t0 t1 t2 t3 t4)
@[simp, go_sem] theorem C3c (t0 t1 t2 t3 t4 : List UInt64) : (Qc t0 t1 t2 t3 t4).length = 5 := rfl
theorem Z7 (x y:UInt64) (w:World):Calls Tryz.prog 131 #[.int .u64 (L6 x),.int .u64 (L6 y)] w fun e w'=>e=.returned (J3 (Cp x y))∧Below w.heap.size w w':=by
 obtain⟨W0,aA⟩:=H8 (w.alloc (Obj.cells (C9 (K9 2)).toArray 211));have B0:=BA' aA;have R0:=KN' aA;have aB:=Iq 2 R0 (by simp);go_enter Tryz.func131,Tryz.ntmps131;go_wp2_with fail;rw[←aA];clear aA;refine (Ys x y W0).mono ?_;rintro e w1 ⟨rfl,rfl⟩;go_wp2_with fail;refine bodyPost_ret (E5 rfl _ _ _ _ _ _ rfl (R0.puts (vs:=C9 (Cp x y)) (by simp)) Zg rfl (by simp[A1k])) rfl ⟨rfl,C5 B0 (Nat.le_refl _) _⟩
theorem Y0 (p:List UInt64) (hp:p.length=2) (x y:UInt64) (w:World):Calls Tryz.prog 132 #[J3 p,.int .u64 (L6 x),.int .u64 (L6 y)] w fun e w'=>e=.returned (J3 (N9 p x y))∧Below w.heap.size w w':=by
 obtain⟨W0,aA⟩:=H8 ((w.alloc (Obj.cells (C9 p).toArray 211)).alloc (Obj.cells (C9 (K9 2)).toArray 211));have B0:Below w.heap.size w W0:=by rw[aA];exact (Cj _ _).alloc (by simp) _
 have P0:Bk W0 w.heap.size 211 (C9 p):=by rw[aA];exact (Bk.new w _ _).alloc _
 have R0:Bk W0 (w.heap.size+1) 211 (C9 (K9 2)):=by rw[aA];simpa using Bk.new (w.alloc (Obj.cells (C9 p).toArray 211)) 211 (C9 (K9 2))
 have aB:=Iq 2 R0 (by simp);have p0:=P0.at_ (M5 (l:=p) (i:=0) (by omega));have p1:=P0.at_ (M5 (l:=p) (i:=1) (by omega));go_enter Tryz.func132,Tryz.ntmps132;go_wp2_with fail;rw[←aA];clear aA;refine (Ys x y W0).mono ?_;rintro e w1 ⟨rfl,rfl⟩;go_wp2_with fail;refine bodyPost_ret (E5 rfl _ _ _ _ _ _ rfl (R0.puts (vs:=C9 (N9 p x y)) (by simp)) Zg rfl (by simp[A1k])) rfl ⟨rfl,C5 B0 (by simp) _⟩
theorem Ss (p:List UInt64) (hp:p.length=2) (w:World):Calls Tryz.prog 149 #[J3 p] w fun e w'=>e=.returned (.int .u64 (L6 (over p)))∧Below w.heap.size w w':=by
 obtain⟨W0,aA⟩:=H8 (w.alloc (Obj.cells (C9 p).toArray 211));have B0:=BA' aA;have P0:=KN' aA;have p0:=P0.at_ (M5 (l:=p) (i:=0) (by omega));have p1:=P0.at_ (M5 (l:=p) (i:=1) (by omega));rw[aA]at p0 p1;go_enter Tryz.func149,Tryz.ntmps149;go_wp2_with fail;rw[←aA];clear aA;go_ret;exact ⟨rfl,B0⟩
end Go.Proofs.YtlegpkdighoflaaGreat
