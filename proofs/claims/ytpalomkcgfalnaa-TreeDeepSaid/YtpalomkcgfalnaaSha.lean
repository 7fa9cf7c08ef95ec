/- What SHA-256 and SHA-512 compute, as plain functions on bytes and words: no program in sight. -/
set_option linter.unusedVariables false
set_option linter.unusedSimpArgs false
namespace Go.Proofs.Ytpalomkcgfalnaa
namespace Sh
def cubes : List UInt64 := [
  4794697086780616226, 8158064640168781261, 13096744586834688815, 16840607885511220156, 4131703408338449720, 6480981068601479193, 10538285296894168987, 12329834152419229976, 15566598209576043074, 1334009975649890238, 2608012711638119052, 6128411473006802146, 8268148722764581231, 9286055187155687089, 11230858885718282805, 13951009754708518548, 16472876342353939154, 17275323862435702243, 1135362057144423861, 2597628984639134821, 3308224258029322869, 5365058923640841347, 6679025012923562964, 8573033837759648693, 10970295158949994411, 12119686244451234320, 12683024718118986047, 13788192230050041572, 14330467153632333762, 15395433587784984357, 489312712824947311, 1452737877330783856, 2861767655752347644, 3322285676063803686, 5560940570517711597, 5996557281743188959, 7280758554555802590, 8532644243296465576, 9350256976987008742, 10552545826968843579, 11727347734174303076, 12113106623233404929, 14000437183269869457, 14369950271660146224, 15101387698204529176, 15463397548674623760, 17586052441742319658, 1182934255886127544, 1847814050463011016, 2177327727835720531, 2830643537854262169, 3796741975233480872, 4115178125766777443, 5681478168544905931, 6601373596472566643, 7507060721942968483, 8399075790359081724, 8693463985226723168, 9568029438360202098, 10144078919501101548, 10430055236837252648, 11840083180663258601, 13761210420658862357, 14299343276471374635, 14566680578165727644, 15097957966210449927, 16922976911328602910, 17689382322260857208, 500013540394364858, 748580250866718886, 1242879168328830382, 1977374033974150939, 2944078676154940804, 3659926193048069267, 4368137639120453308, 4836135668995329356, 5532061633213252278, 6448918945643986474, 6902733635092675308, 7801388544844847127]
def squares : List UInt64 := [
  7640891576956012808, 13503953896175478587, 4354685564936845355, 11912009170470909681, 5840696475078001361, 11170449401992604703, 2270897969802886507, 6620516959819538809]
/-- A place of a list, nought behind its end; a name that no simp set opens. -/
def g8 (l : List UInt8) (i : Nat) : UInt8 := l.getD i 0
def g32 (l : List UInt32) (i : Nat) : UInt32 := l.getD i 0
def g64 (l : List UInt64) (i : Nat) : UInt64 := l.getD i 0
def rotl32 (x : UInt32) (k : Int) : UInt32 := x <<< UInt32.ofNat (32 + k).toNat ||| x >>> UInt32.ofNat (-k).toNat
def rotl64 (x : UInt64) (k : Int) : UInt64 := x <<< UInt64.ofNat (64 + k).toNat ||| x >>> UInt64.ofNat (-k).toNat
/-- A number's eight bytes, the highest first. -/
def be64 (n : UInt64) : List UInt8 := [(n >>> 56).toUInt8, (n >>> 48).toUInt8, (n >>> 40).toUInt8, (n >>> 32).toUInt8, (n >>> 24).toUInt8, (n >>> 16).toUInt8, (n >>> 8).toUInt8, n.toUInt8]
def zeros (block n : Nat) : Nat := (block - (n + 1 + block / 8) % block) % block
def pad (block : Nat) (l : List UInt8) : List UInt8 :=
  l ++ [128] ++ List.replicate (zeros block l.length) 0 ++ List.replicate (block / 8 - 8) 0 ++ be64 (8 * UInt64.ofNat l.length)


def word32 (b : List UInt8) (t : Nat) : UInt32 := ((g8 b (4 * t)).toUInt32 <<< 24 ||| (g8 b (4 * t + 1)).toUInt32 <<< 16 ||| (g8 b (4 * t + 2)).toUInt32 <<< 8 ||| (g8 b (4 * t + 3)).toUInt32)
def next32 (y m x l : UInt32) : UInt32 := (rotl32 y (-17) ^^^ rotl32 y (-19) ^^^ y >>> 10) + m + (rotl32 x (-7) ^^^ rotl32 x (-18) ^^^ x >>> 3) + l
/-- The schedule's first k words. -/
def W32 (b : List UInt8) : Nat → List UInt32
  | 0 => []
  | t + 1 => W32 b t ++ [if t < 16 then word32 b t else
      next32 (g32 (W32 b t) (t - 2)) (g32 (W32 b t) (t - 7)) (g32 (W32 b t) (t - 15)) (g32 (W32 b t) (t - 16))]
def ta32 (v : List UInt32) (k m : UInt32) : UInt32 :=
  let e := g32 v 4
  g32 v 7 + (rotl32 e (-6) ^^^ rotl32 e (-11) ^^^ rotl32 e (-25)) + (e &&& g32 v 5 ^^^ ~~~e &&& g32 v 6) + k + m
def tb32 (v : List UInt32) : UInt32 :=
  let a := g32 v 0
  (rotl32 a (-2) ^^^ rotl32 a (-13) ^^^ rotl32 a (-22)) + (a &&& g32 v 1 ^^^ a &&& g32 v 2 ^^^ g32 v 1 &&& g32 v 2)
def round32 (v : List UInt32) (k m : UInt32) : List UInt32 :=
  [ta32 v k m + tb32 v, g32 v 0, g32 v 1, g32 v 2, g32 v 3 + ta32 v k m, g32 v 4, g32 v 5, g32 v 6]
def K32 (t : Nat) : UInt32 := ((g64 cubes t) >>> 32).toUInt32
def turns32 (h W : List UInt32) : Nat → List UInt32
  | 0 => h
  | t + 1 => round32 (turns32 h W t) (K32 t) (g32 W t)
def add32 (h v : List UInt32) : List UInt32 := List.zipWith (· + ·) h v
def block32 (h : List UInt32) (b : List UInt8) : List UInt32 := add32 h (turns32 h (W32 b 64) 64)
/-- The state behind so many blocks. -/
def state32 (p : List UInt8) : Nat → List UInt32
  | 0 => squares.map fun (r : UInt64) => (r >>> 32).toUInt32
  | i + 1 => block32 (state32 p i) (p.drop (64 * i))
def bytes32 (x : UInt32) : List UInt8 := [(x >>> 24).toUInt8, (x >>> 16).toUInt8, (x >>> 8).toUInt8, x.toUInt8]
def out32 (h : List UInt32) : List UInt8 := h.flatMap bytes32
def sum32 (l : List UInt8) : List UInt8 := out32 (state32 (pad 64 l) ((pad 64 l).length / 64))


def word64 (b : List UInt8) (t : Nat) : UInt64 := ((b.drop (8 * t)).take 8).foldl (fun m x => m <<< 8 ||| x.toUInt64) 0
def next64 (y m x l : UInt64) : UInt64 := (rotl64 y (-19) ^^^ rotl64 y (-61) ^^^ y >>> 6) + m + (rotl64 x (-1) ^^^ rotl64 x (-8) ^^^ x >>> 7) + l
/-- The schedule's first k words. -/
def W64 (b : List UInt8) : Nat → List UInt64
  | 0 => []
  | t + 1 => W64 b t ++ [if t < 16 then word64 b t else
      next64 (g64 (W64 b t) (t - 2)) (g64 (W64 b t) (t - 7)) (g64 (W64 b t) (t - 15)) (g64 (W64 b t) (t - 16))]
def ta64 (v : List UInt64) (k m : UInt64) : UInt64 :=
  let e := g64 v 4
  g64 v 7 + (rotl64 e (-14) ^^^ rotl64 e (-18) ^^^ rotl64 e (-41)) + (e &&& g64 v 5 ^^^ ~~~e &&& g64 v 6) + k + m
def tb64 (v : List UInt64) : UInt64 :=
  let a := g64 v 0
  (rotl64 a (-28) ^^^ rotl64 a (-34) ^^^ rotl64 a (-39)) + (a &&& g64 v 1 ^^^ a &&& g64 v 2 ^^^ g64 v 1 &&& g64 v 2)
def round64 (v : List UInt64) (k m : UInt64) : List UInt64 :=
  [ta64 v k m + tb64 v, g64 v 0, g64 v 1, g64 v 2, g64 v 3 + ta64 v k m, g64 v 4, g64 v 5, g64 v 6]
def K64 (t : Nat) : UInt64 := g64 cubes t
def turns64 (h W : List UInt64) : Nat → List UInt64
  | 0 => h
  | t + 1 => round64 (turns64 h W t) (K64 t) (g64 W t)
def add64 (h v : List UInt64) : List UInt64 := List.zipWith (· + ·) h v
def block64 (h : List UInt64) (b : List UInt8) : List UInt64 := add64 h (turns64 h (W64 b 80) 80)
/-- The state behind so many blocks. -/
def state64 (p : List UInt8) : Nat → List UInt64
  | 0 => squares
  | i + 1 => block64 (state64 p i) (p.drop (128 * i))
def bytes64 (x : UInt64) : List UInt8 := be64 x
def out64 (h : List UInt64) : List UInt8 := h.flatMap bytes64
def sum64 (l : List UInt8) : List UInt8 := out64 (state64 (pad 128 l) ((pad 128 l).length / 128))


theorem length_W32 (b : List UInt8) (k : Nat) : (W32 b k).length = k := by
  induction k with
  | zero => rfl
  | succ k ih => simp [W32, ih]
theorem length_W64 (b : List UInt8) (k : Nat) : (W64 b k).length = k := by
  induction k with
  | zero => rfl
  | succ k ih => simp [W64, ih]
theorem length_turns32 (h W : List UInt32) (hh : h.length = 8) (k : Nat) : (turns32 h W k).length = 8 := by
  cases k with
  | zero => exact hh
  | succ k => simp [turns32, round32]
theorem length_turns64 (h W : List UInt64) (hh : h.length = 8) (k : Nat) : (turns64 h W k).length = 8 := by
  cases k with
  | zero => exact hh
  | succ k => simp [turns64, round64]
theorem length_state32 (p : List UInt8) (i : Nat) : (state32 p i).length = 8 := by
  induction i with
  | zero => simp [state32, squares]
  | succ i ih => simp [state32, block32, add32, length_turns32 _ _ ih, ih]
theorem length_state64 (p : List UInt8) (i : Nat) : (state64 p i).length = 8 := by
  induction i with
  | zero => simp [state64, squares]
  | succ i ih => simp [state64, block64, add64, length_turns64 _ _ ih, ih]
theorem length_out32 (h : List UInt32) : (out32 h).length = 4 * h.length := by
  unfold out32
  induction h with
  | nil => rfl
  | cons x h ih => simp [bytes32] at ih ⊢; omega
theorem length_out64 (h : List UInt64) : (out64 h).length = 8 * h.length := by
  unfold out64
  induction h with
  | nil => rfl
  | cons x h ih => simp [bytes64, be64] at ih ⊢; omega
theorem length_sum32 (l : List UInt8) : (sum32 l).length = 32 := by unfold sum32; rw [length_out32, length_state32]
theorem length_sum64 (l : List UInt8) : (sum64 l).length = 64 := by unfold sum64; rw [length_out64, length_state64]
theorem abc32 : sum32 [97, 98, 99] = [0xba,0x78,0x16,0xbf,0x8f,0x01,0xcf,0xea,0x41,0x41,0x40,0xde,0x5d,0xae,0x22,0x23,0xb0,0x03,0x61,0xa3,0x96,0x17,0x7a,0x9c,0xb4,0x10,0xff,0x61,0xf2,0x00,0x15,0xad] := by decide +kernel
theorem abc64 : (sum64 [97, 98, 99]).take 2 = [0xdd, 0xaf] ∧ (sum64 [97, 98, 99]).getD 63 0 = 0x9f := by decide +kernel
theorem pad_mod (l : List UInt8) : (pad 64 l).length % 64 = 0 ∧ (pad 128 l).length % 128 = 0 := by
  simp [pad, zeros, be64]; omega
end Sh
end Go.Proofs.Ytpalomkcgfalnaa
