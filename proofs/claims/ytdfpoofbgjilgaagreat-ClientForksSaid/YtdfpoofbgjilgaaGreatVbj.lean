/- A part of the proof of ClientForks. -/
import Derived.Lib.Bytealg
import Derived.Maps.Views
import Derived.StringKeys
import Derived.Test.YtdfpoofbgjilgaaGreatVbh
import Derived.Test.YtdfpoofbgjilgaaGreatVbi
set_option linter.unusedVariables false
set_option linter.unusedSimpArgs false
set_option maxRecDepth 100000
set_option maxHeartbeats 40000000
namespace Go.Proofs.YtdfpoofbgjilgaaGreat
open Go Go.RowKit Sh
theorem It (x:UInt64) (b:UInt8) (hx:x.toNat<72057594037927936):((x <<< 8) ||| b.toUInt64).toNat=x.toNat*256+b.toNat:=by
 have hb:=b.toNat_lt;have h1:(x <<< 8).toNat=x.toNat <<< 8:=by rw[UInt64.toNat_shiftLeft];have:(8:UInt64).toNat % 64=8:=rfl;rw[this];exact Nat.mod_eq_of_lt (by rw[Nat.shiftLeft_eq];omega)
 have h2:b.toUInt64.toNat=b.toNat:=UInt8.toNat_toUInt64 b;rw[UInt64.toNat_or,h1,h2,←Nat.shiftLeft_add_eq_or_of_lt (by omega),Nat.shiftLeft_eq]
theorem Et (v:UInt64) (k:UInt64) (n:Nat) (hk:k.toNat % 64=n):((v >>> k).toUInt8).toNat=v.toNat / 2 ^ n % 256:=by
 rw[UInt64.toNat_toUInt8,UInt64.toNat_shiftRight,hk,Nat.shiftRight_eq_div_pow]
theorem D6e (v:UInt64):w8L (J3 v)=v:=by
 have hv:=v.toNat_lt;apply UInt64.toNat_inj.1;have b0:=Et v 56 56 rfl;have b1:=Et v 48 48 rfl;have b2:=Et v 40 40 rfl;have b3:=Et v 32 32 rfl;have b4:=Et v 24 24 rfl;have b5:=Et v 16 16 rfl;have b6:=Et v 8 8 rfl;have b7:v.toUInt8.toNat=v.toNat % 256:=UInt64.toNat_toUInt8 v;have e:J3 v=[(v >>> 56).toUInt8,(v >>> 48).toUInt8,(v >>> 40).toUInt8,(v >>> 32).toUInt8,(v >>> 24).toUInt8,(v >>> 16).toUInt8,(v >>> 8).toUInt8,v.toUInt8]:=rfl;rw[e];unfold w8L;simp only[List.foldl_cons,List.foldl_nil];generalize (v >>> 56).toUInt8=x0 at *;generalize (v >>> 48).toUInt8=x1 at *;generalize (v >>> 40).toUInt8=x2 at *;generalize (v >>> 32).toUInt8=x3 at *;generalize (v >>> 24).toUInt8=x4 at *;generalize (v >>> 16).toUInt8=x5 at *;generalize (v >>> 8).toUInt8=x6 at *;generalize v.toUInt8=x7 at *;have l0:=x0.toNat_lt;have l1:=x1.toNat_lt;have l2:=x2.toNat_lt;have l3:=x3.toNat_lt;have l4:=x4.toNat_lt;have l5:=x5.toNat_lt;have l6:=x6.toNat_lt;have s0:=It 0 x0 (by decide);have z:(0:UInt64).toNat=0:=rfl;rw[z]at s0;generalize (0:UInt64) <<< 8 ||| x0.toUInt64=y0 at *;have s1:=It y0 x1 (by omega);generalize y0 <<< 8 ||| x1.toUInt64=y1 at *;have s2:=It y1 x2 (by omega);generalize y1 <<< 8 ||| x2.toUInt64=y2 at *;have s3:=It y2 x3 (by omega);generalize y2 <<< 8 ||| x3.toUInt64=y3 at *;have s4:=It y3 x4 (by omega);generalize y3 <<< 8 ||| x4.toUInt64=y4 at *;have s5:=It y4 x5 (by omega)
 generalize y4 <<< 8 ||| x5.toUInt64=y5 at *;have s6:=It y5 x6 (by omega);generalize y5 <<< 8 ||| x6.toUInt64=y6 at *;have s7:=It y6 x7 (by omega);rw[s7];omega
theorem F1a (w:World):(zeroValue 3).run Tryz.prog w=.ok (.int .i64 0) w:=by kernel_rfl
section
def Hh (c e f:UInt8):List UInt8:=c::e::f::z8 29
@[simp, go_sem] theorem D3x (c e f : UInt8) : (Hh c e f).length = 32 := by simp [Hh]
theorem B3a (c e f:UInt8) (w:World):(Instr.build 35 #[(0,v8 c),(1,v8 e),(2,v8 f)]).run Tryz.prog w=.ok (A8 (Hh c e f)) w:=by kernel_rfl
attribute [irreducible] Hh
open Classical in
noncomputable def A2q (w:World) (raw:Result Next) (v u x:Value):Result Next:=if h:∃p:UInt8×UInt8×UInt8,v=v8 p.1∧u=v8 p.2.1∧x=v8 p.2.2 then .ok (.value (A8 (Hh h.choose.1 h.choose.2.1 h.choose.2.2))) w else raw
@[go_sem] theorem E4a (w : World) (raw : Result Next) (c e : UInt8) : A2q w raw (.int .u8 (n8 c)) (.int .u8 (n8 e)) (.int .u8 7) = .ok (.value (A8 (Hh c e 7))) w := by
 have h:∃p:UInt8×UInt8×UInt8,v8 c=v8 p.1∧v8 e=v8 p.2.1∧v8 7=v8 p.2.2:=⟨(c,e,7),rfl,rfl,rfl⟩;show A2q w raw (v8 c) (v8 e) (v8 7)=_;unfold A2q;rw[dif_pos h,←Ts h.choose_spec.1,←Ts h.choose_spec.2.1,←Ts h.choose_spec.2.2]
@[go_sem ↓ high] theorem D8b (w : World) (ρ : Operand → Value) (dst : Option Tmp) (ty : TypeId) (pos : String) (after : Array Edge) (guard : Option (Nat × Bool)) (x y z : Operand) :
 (execOp ρ { dst,op:=.build 35 #[(0,x),(1,y),(2,z)],type:=ty,pos,after,guard }).run Tryz.prog w=A2q w (F2 Tryz.prog ρ { dst,op:=.build 35 #[(0,x),(1,y),(2,z)],type:=ty,pos,after,guard } w) (ρ x) (ρ y) (ρ z):=by
 unfold A2q;split
 ·rename_i h
  have h1:=h.choose_spec;generalize h.choose=c at h1;refine E9 w ρ dst ty pos after guard _ _ _ ?_;simp only[List.map_toArray,List.map_cons,List.map_nil,h1.1,h1.2.1,h1.2.2];exact B3a c.1 c.2.1 c.2.2 w
 ·rfl
def Z7 (n:Nat) (y:UInt8):List (List UInt8):=(List.range n).map fun i=>Hh (UInt8.ofNat i+1) y 7
theorem A9d (n:Nat) (y:UInt8):Z7 (n+1) y=Z7 n y++[Hh (UInt8.ofNat n+1) y 7]:=by
 unfold Z7;rw[List.range_succ,List.map_append];rfl
theorem T8 (n:Nat) (y:UInt8):(Z7 n y).length=n:=by simp[Z7]
theorem E0g {k:Nat} (h:k<255):IntKind.u8.wrap ((k:Int)+1)=n8 (UInt8.ofNat k+1):=by
 rw[show UInt8.ofNat k+1=UInt8.ofNat (k+1) by simp];have e:(k:Int)+1=((k+1:Nat):Int):=rfl;rw[e,Ke];unfold Co n8;rw[UInt8.toNat_ofNat',UInt8.toNat_ofNat'];omega
theorem C2n (n:Nat) (y:UInt8) (hn:n≤100) (w:World):Calls Tryz.prog 27 #[.int .i64 (n:Int),.int .u8 (n8 y)] w fun x w'=>∃v,x=.returned v∧Ad w' w.heap.size v (Z7 n y)∧Below w.heap.size w w':=by
 go_enter Tryz.func27,Tryz.ntmps27;go_wp2_with fail;go_loopw [5,6] (fun ov iv wr=>∃i:Nat,iv=.int .i64 (i:Int)∧i≤n∧Ad wr w.heap.size ov (Z7 i y)∧Below w.heap.size w wr) (fun _ iv _=>n-(intOf iv).toNat)
 case atStart=>exact ⟨0,rfl,by omega,Ad.nil _ _,Below.refl _ _⟩
 case round=>
  obtain⟨i,rfl,hi,ho,b⟩:=hrel;by_cases hlt:i<n
  ·have hd:decide ((i:Int)<(n:Int))=true:=decide_eq_true (by omega);have aF:decide (i<n)=true:=decide_eq_true hlt;have aJ:=E0g (k:=i) (by omega);have aK:IntKind.i64.wrap ((i:Int)+1)=(i:Int)+1:=IntWalk.i64_in _ (by omega);have HO:=Lib.hid ho;obtain⟨A,c,rfl,-,-⟩:=ho.form;have aA:∀z∈c8 (Hh (UInt8.ofNat i+1) y 7),z.oneCell'=true:=fun z hz=>by obtain⟨u,_,rfl⟩:=List.mem_map.1 hz;rfl
   have aB:=T8 i y;obtain⟨L,hL⟩:∃L,L=Z7 i y:=⟨_,rfl⟩;rw[←hL]at HO aB ⊢;have HL:=Lib.hid hL;rw[aB]at HO ⊢;clear hL;go_wp2_with (at_builtin;refine A8f 26 35 (A8 (z8 32)) 32 32 Tryz.underlying26 A3t (by simp[A8,Value.cells]) (by decide) (by decide) rfl _ _ rfl rfl HO.out.2 (c8 (Hh (UInt8.ofNat i+1) y 7)) (by simp) aA _ rfl rfl rfl (by omega) b.size ?_;intro A6 c6 w6 aL aM aC aE aG aD);have aH:Ad w6 w.heap.size (.slice A6 (i+1) c6) (Z7 (i+1) y):=by
    rw[A9d,←HL.out];refine ⟨fun z hz=>?_,?_⟩
    ·rcases List.mem_append.1 hz with hz | hz
     ·exact HO.out.1 z hz
     ·rw[List.mem_singleton.1 hz];simp
    ·have aI:c8 (L++[Hh (UInt8.ofNat i+1) y 7]).flatten=c8 L.flatten++c8 (Hh (UInt8.ofNat i+1) y 7):=by simp[c8]
     rw[aI,List.length_append];rw[aB]at aC ⊢;exact aC
   have b6:=b.trans aE;clear aC aE aG aD;go_wp2_with fail;go_roundw;case rel=>exact ⟨i+1,by simp,by omega,aH,b6⟩
   case measure=>simp[intOf];omega
  ·have hd:decide ((i:Int)<(n:Int))=false:=decide_eq_false (by omega);have aF:decide (i<n)=false:=decide_eq_false hlt;obtain rfl:i=n:=by omega
   go_wp2_with fail;go_ret;exact ⟨_,rfl,ho,b⟩
end
theorem A2u {α:Type} {l:List α} {i:Nat} {a y:α} (ha:l[i]?=some a):y∈l.take (i+1)↔y∈l.take i∨y=a:=by
 have:l.take (i+1)=l.take i++[a]:=by rw[List.take_add_one,ha];rfl
 rw[this];simp
theorem B7x (v:Value) (l:List Int) (x:Int) (w:World) (hv:Ns w w.heap.size v l):Calls Tryz.prog 85 #[v,.int .i64 x] w fun e w'=>∃z:Int,e=.returned (.int .i64 z)∧(0≤z↔x∈l)∧Below w.heap.size w w':=by
 have HA:=Lib.hid hv;obtain⟨A,c,rfl,aC,aE,_⟩:=hv;obtain⟨n,hn⟩:∃n,n=l.length:=⟨_,rfl⟩;have HN:=Lib.hid hn;rw[←hn]at HA aC ⊢;clear hn;go_enter Tryz.func85,Tryz.ntmps85;go_wp2_with fail;go_loopw [5,8] (fun _ jv wr=>∃i:Nat,jv=.int .i64 (i:Int)∧i≤n∧x∉l.take i∧Below w.heap.size w wr) (fun _ jv _=>n-(intOf jv).toNat)
 case atStart=>exact ⟨0,rfl,by omega,by simp,Below.refl _ _⟩
 case round=>
  obtain⟨i,rfl,hi,hx,b⟩:=hrel;by_cases hlt:i<n
  ·have hd:decide ((i:Int)<(n:Int))=true:=decide_eq_true (by omega);have aD:decide (i<n)=true:=decide_eq_true hlt;obtain⟨a,ha⟩:∃a,l[i]?=some a:=⟨_,List.getElem?_eq_getElem (by rw[←HN.out];exact hlt)⟩;obtain⟨g,o,rfl,hg,hc⟩:=HA.out.at_ ha;have aB:wr.cell? ⟨g,o+i,none⟩=some (.int .i64 a):=by rw[b.cell (p:=⟨g,o+i,none⟩) hg];exact hc
   by_cases e:x=a
   ·have he:(x==a)=true:=by simp[e]
    have hm:x∈l:=List.mem_of_getElem? (by rw[e];exact ha);clear ha hc e hx;go_wp2_with fail;go_ret;exact ⟨_,rfl,⟨fun _=>hm,fun _=>by omega⟩,b⟩
   ·have he:(x==a)=false:=by simp[e]
    have aA:x∉l.take (i+1):=fun h=>by
     rcases (A2u ha).1 h with h | h
     ·exact hx h
     ·exact e h
    clear ha hc e;go_wp2_with fail;go_roundw;case rel=>exact ⟨i+1,by simp,by omega,aA,b⟩
    case measure=>simp[intOf];omega
  ·have hd:decide ((i:Int)<(n:Int))=false:=decide_eq_false (by omega);have aD:decide (i<n)=false:=decide_eq_false hlt;have aA:x∉l:=by rwa [List.take_of_length_le (by rw[←HN.out];omega)]at hx
   go_wp2_with fail;go_ret;exact ⟨_,rfl,⟨fun h=>absurd h (by decide),fun h=>absurd h aA⟩,b⟩
theorem A3f (v:Value) (l:List Int) (x:Int) (w:World) (hv:Ns w w.heap.size v l):Calls Tryz.prog 37 #[v,.int .i64 x] w fun e w'=>e=.returned (.bool (decide (x∈l)))∧Below w.heap.size w w':=by
 go_enter Tryz.func37,Tryz.ntmps37;go_wp2_with fail;refine (B7x v l x w hv).mono ?_;rintro e w1 ⟨z,rfl,hz,b⟩;by_cases h:x∈l
 ·have aA:decide (0≤z)=true:=decide_eq_true (hz.2 h);have hm:decide (x∈l)=true:=decide_eq_true h;go_wp2_with fail;go_ret;exact ⟨by rw[hm];rfl,b⟩
 ·have aA:decide (0≤z)=false:=decide_eq_false fun h2=>h (hz.1 h2);have hm:decide (x∈l)=false:=decide_eq_false h;go_wp2_with fail;go_ret;exact ⟨by rw[hm];rfl,b⟩
theorem B7w (v:Value) (l:List (List UInt8)) (x:List UInt8) (hx:x.length=32) (w:World) (hv:Hs w 0 w.heap.size v l):Calls Tryz.prog 125 #[v,A8 x] w fun e w'=>∃z:Int,e=.returned (.int .i64 z)∧(l=[]→z=-1)∧Below w.heap.size w w':=by
 have HA:=Lib.hid hv;obtain⟨A,c,rfl,aB,aF⟩:=hv.form;obtain⟨n,hn⟩:∃n,n=l.length:=⟨_,rfl⟩;have HN:=Lib.hid hn;rw[←hn]at HA aB ⊢;clear hn hv;obtain⟨W0,aA⟩:∃z,z=w.alloc (Obj.cells (c8 x).toArray 35):=⟨_,rfl⟩;have kx:Bk W0 w.heap.size 35 (c8 x):=by rw[aA];exact Bk.new w _ _
 have B0:Below w.heap.size w W0:=by rw[aA];exact (Below.refl _ _).alloc (Nat.le_refl _) _
 go_enter Tryz.func125,Tryz.ntmps125;go_wp2_with fail;rw[←aA];clear aA;go_loopw [5,8] (fun _ jv wr=>∃i:Nat,jv=.int .i64 (i:Int)∧i≤n∧Bk wr w.heap.size 35 (c8 x)∧Below w.heap.size w wr) (fun _ jv _=>n-(intOf jv).toNat)
 case atStart=>exact ⟨0,rfl,by omega,kx,B0⟩
 case round=>
  clear kx B0;obtain⟨i,rfl,hi,kx,b⟩:=hrel;by_cases hlt:i<n
  ·have hd:decide ((i:Int)<(n:Int))=true:=decide_eq_true (by omega);have aC:decide (i<n)=true:=decide_eq_true hlt;obtain⟨k,hk⟩:∃k,l[i]?=some k:=⟨_,List.getElem?_eq_getElem (by rw[←HN.out];exact hlt)⟩;obtain⟨g,o,rfl,hg,aD⟩:=HA.out.at_ hk;have aG:k.length=32:=HA.out.1 k (List.mem_of_getElem? hk);have b1:Below wr.heap.size wr wr.drew:=(Below.refl _ _).drew;have bd:=C1 b b1 b.size;have kd:=kx.drew;obtain⟨e,he⟩:∃e,(x==k)=e:=⟨_,rfl⟩;clear hk b1;go_wp2_with fail;refine E3 (fun W=>Bk W w.heap.size 35 (c8 x)∧Below w.heap.size w W) (by kernel_rfl) ?_;refine C5 (A:=?Ai) [0,1,2,3,4,5] (by kernel_rfl) (by kernel_rfl) rfl (by kernel_rfl) (by kernel_rfl) ⟨kd,bd⟩ (h:=fun W hW=>?aE) (hr:=?aH);case aE=>
    have f1:=hW.1.row8 hx;have f2:=(Bv (a:=⟨g,o+i*32,none⟩) hW.2 hg).trans aD;simp only[pick,List.getElem?_cons_zero,List.getElem?_cons_succ];repeat (go_big_quiet_step (fail))
    refine wpQuiet_nil ?_;rfl
   refine F0 (by kernel_rfl) ?_;cases e with
   | true=>
    go_wp2_with fail;go_ret;exact ⟨_,rfl,fun h=>absurd hlt (by rw[HN.out,h];simp),bd⟩
   | false=>
    go_wp2_with fail;go_roundw;case rel=>exact ⟨i+1,by simp,by omega,kd,bd⟩
    case measure=>simp[intOf];omega
  ·have hd:decide ((i:Int)<(n:Int))=false:=decide_eq_false (by omega);have aC:decide (i<n)=false:=decide_eq_false hlt;go_wp2_with fail;go_ret;exact ⟨_,rfl,fun _=>rfl,b⟩
theorem A3g (v:Value) (l:List (List UInt8)) (x:List UInt8) (hx:x.length=32) (w:World) (hv:Hs w 0 w.heap.size v l):Calls Tryz.prog 74 #[v,A8 x] w fun e w'=>∃z:Bool,e=.returned (.bool z)∧(l=[]→z=false)∧Below w.heap.size w w':=by
 obtain⟨W0,aA⟩:∃z,z=w.alloc (Obj.cells (c8 x).toArray 35):=⟨_,rfl⟩;have kx:Bk W0 w.heap.size 35 (c8 x):=by rw[aA];exact Bk.new w _ _
 have B0:Below w.heap.size w W0:=by rw[aA];exact (Below.refl _ _).alloc (Nat.le_refl _) _
 have rx:=kx.row8 hx;rw[aA]at rx;go_enter Tryz.func74,Tryz.ntmps74;go_wp2_with fail;rw[←aA];clear rx aA;refine (B7w v l x hx W0 ((hv.below B0).more B0.size)).mono ?_;rintro e w1 ⟨z,rfl,h0,b⟩;have B1:=C1 B0 b B0.size;cases hz:decide (0≤z) with
 | true=>
  have aB:¬ l=[]:=fun h=>by rw[h0 h]at hz;exact absurd hz (by decide)
  clear h0;go_wp2_with fail;go_ret;exact ⟨_,rfl,fun h=>absurd h aB,B1⟩
 | false=>
  clear h0;go_wp2_with fail;go_ret;exact ⟨_,rfl,fun _=>rfl,B1⟩
section
theorem Pc:Maps.Keyed Tryz.prog 9:=Maps.string_keyed Tryz.underlying9
def kz (l:List UInt8):Lit:=.string l
theorem C6w {l:List UInt8} (h:l.length≤100000000):keyOf Tryz.prog 9 (S8 l)=some (kz l):=by
 have:=Go.WideMaps.keyOf_string_mk (P:=Tryz.prog) Tryz.underlying9 (s:=⟨l.toArray⟩) (by show l.toArray.size≤maxLen;simp[maxLen];omega);exact this
theorem D8l {l m:List UInt8} (h:l≠m):kz l≠kz m:=fun e=>h (by unfold kz at e;injection e)
theorem E1f {l:List UInt8} (h:l.length≤100000000):WideAt.IsKeyLit (kz l):=Pc.key (C6w h)
def Ia (i:Nat) (tag:UInt8) (sig body:List UInt8):List UInt8:=UInt8.ofNat i::tag::(sig++body)
theorem D1i {i j:Nat} {t u:UInt8} {s r a b:List UInt8} (hi:i<256) (hj:j<256) (hs:s.length=64) (hr:r.length=64) (h:Ia i t s a=Ia j u r b):i=j∧t=u∧s=r∧a=b:=by
 unfold Ia at h;injection h with h1 h;injection h with h2 h;obtain⟨h3,h4⟩:=List.append_inj h (by rw[hs,hr]);have:=congrArg UInt8.toNat h1;rw[UInt8.toNat_ofNat',UInt8.toNat_ofNat']at this;exact ⟨by omega,h2,h3,h4⟩
noncomputable def Jf (K:List (List UInt8)) (i:Nat) (tag:UInt8) (body sig:List UInt8):Bool:=Cz (K.getD i []) tag body sig
def C0e (b:Bool):Int:=if b then 1 else 2
def C8y (D:DataW Value) (K:List (List UInt8)):Prop:=∀i tag sig body,i<256→sig.length=64→body.length≤1000000→
 (∀z,D.atKey (kz (Ia i tag sig body)) z=z)∨∀z,D.atKey (kz (Ia i tag sig body)) z=.held (.int .i64 (C0e (Jf K i tag body sig)))
theorem B4z {P:Program} {k:TypeId} {R:Value→Option (DataW Value×List MemPlace)} {w:World} {b n:Nat} {D:DataW Value} (h:w.ownsMap P k R b n D):w.ownsMap P k R b (Maps.size D) D:=by
 obtain⟨es,aA,hb,F,_,rfl⟩:=h;have e1:Maps.size (DataW.map ((es.toList.map (WideElems.rg P k R)).foldr DataW.insert []))=es.size:=by simp[Maps.size,Go.length_sorted]
 exact ⟨es,aA,hb,F,by rw[e1];exact Nat.le_refl _,rfl⟩
def RgM (w:World) (b:Nat) (K:List (List UInt8)):Prop:=∃D:DataW Value,w.ownsMap Tryz.prog 9 RI b (Maps.size D) D∧C8y D K
section
variable {w w' : World} {b : Nat} {K : List (List UInt8)}
theorem RgM.made (w:World) (K:List (List UInt8)):RgM (w.alloc (.map #[] 0)) w.heap.size K:=⟨.map [],World.ownsMap_made _ _ _ _,fun i t s a _ _ _=>.inl fun z=>rfl⟩
theorem RgM.kept {row:Option Nat} (h:RgM w b K) (hg:w.grownBy w' row) (hne:some b≠row):RgM w' b K:=by
 obtain⟨D,hD,h1⟩:=h;exact ⟨D,hD.kept hg hne,h1⟩
theorem RgM.below (h:RgM w b K) (hb:Below w.heap.size w w'):RgM w' b K:=
 h.kept (row:=none) ⟨hb.os,hb.tape,hb.output,hb.size,fun k hk _=>hb.block k (by omega)⟩ (by simp)
theorem RgM.notCells (h:RgM w b K):∀r,some b=some r→∃o:Obj,w.heap[r]?=some o∧o.isCells=false:=by
 obtain⟨D,⟨es,aA,hb,_⟩,_⟩:=h;intro r hr;injection hr with hr;subst hr;exact ⟨_,hb,rfl⟩
theorem Oi {i:Nat} {t:UInt8} {s a:List UInt8} (hs:s.length=64) (ha:a.length≤1000000):(Ia i t s a).length≤100000000:=by unfold Ia;simp;omega
theorem RgM.use (h:RgM w b K) {i:Nat} {t:UInt8} {s a:List UInt8} (hi:i<256) (hs:s.length=64) (ha:a.length≤1000000) :
 ∃(D:DataW Value) (z:Int),w.ownsMap Tryz.prog 9 RI b (Maps.size D) D∧(z=0∨z=C0e (Jf K i t a s))∧
 (∀w',w'.ownsMap Tryz.prog 9 RI b (Maps.size D) D→(Instr.lookup 164 (.map (some b)) (S8 (Ia i t s a)) false).run Tryz.prog w'=.ok (.int .i64 z) w')∧
 (∀w',w'.ownsMap Tryz.prog 9 RI b (Maps.size D) D→∀ty,(Builtin.len_ #[164] ty #[.map (some b)]).run Tryz.prog w'=.ok (.int .i64 (Maps.size D:Int)) w')∧C8y D K∧
 ∀w',w'.ownsMap Tryz.prog 9 RI b (Maps.size D+1) (D.put (kz (Ia i t s a)) (.held (.int .i64 (C0e (Jf K i t a s)))))→RgM w' b K:=by
 obtain⟨D,hD,hl⟩:=h;have h3:=hl i t s a hi hs ha;obtain⟨z,aD,aE⟩:∃z:Int,(z=0∨z=C0e (Jf K i t a s))∧∀w':World,w'.ownsMap Tryz.prog 9 RI b (Maps.size D) D→(Instr.lookup 164 (.map (some b)) (S8 (Ia i t s a)) false).run Tryz.prog w'=.ok (.int .i64 z) w':=by
  have aA:∀w':World,w'.ownsMap Tryz.prog 9 RI b (Maps.size D) D→((∀z,D.atKey (kz (Ia i t s a)) z=z)∧(Instr.lookup 164 (.map (some b)) (S8 (Ia i t s a)) false).run Tryz.prog w'=.ok (.int .i64 0) w')∨∃x:Int,(∀z,D.atKey (kz (Ia i t s a)) z=.held (.int .i64 x))∧(Instr.lookup 164 (.map (some b)) (S8 (Ia i t s a)) false).run Tryz.prog w'=.ok (.int .i64 x) w':=by
   intro w' hw;obtain⟨es,aB,hb,F,_,aC⟩:=hw;rcases Maps.fit_look false Pc Tryz.underlying164 (F1a w') hb F (C6w (Oi hs ha)) with ⟨hrun,_,hat⟩ | ⟨e0,y,_,_,hrun,hRv,hat,_⟩
   ·exact .inl ⟨fun z=>by rw[aC];exact hat z,hrun⟩
   ·obtain⟨x,hx⟩:=E1k hRv;have hy:y.1=.held (.int .i64 x):=by rw[hx]at hRv;have:some (DataW.held (Value.int .i64 x),([]:List MemPlace))=some y:=hRv;injection this with this;rw[←this]
    exact .inr ⟨x,fun z=>by rw[aC,←hy];exact hat z,by rw[←hx];exact hrun⟩
  rcases h3 with h4 | h4
  ·refine ⟨0,.inl rfl,fun w' hw=>?_⟩;rcases aA w' hw with ⟨_,h5⟩ | ⟨x,h5,_⟩
   ·exact h5
   ·have:=(h4 .nil).symm.trans (h5 .nil);cases this
  ·refine ⟨_,.inr rfl,fun w' hw=>?_⟩;rcases aA w' hw with ⟨h5,_⟩ | ⟨x,h5,h6⟩
   ·have:=(h4 .nil).symm.trans (h5 .nil);cases this
   ·have:=(h4 .nil).symm.trans (h5 .nil);injection this with this;injection this with _ this;rw[this];exact h6
 refine ⟨D,z,hD,aD,aE,fun w' hw ty=>hw.len Tryz.underlying164 ty,hl,fun w' h'=>⟨_,B4z h',fun j u r c hj hr hc=>?_⟩⟩;by_cases e:Ia j u r c=Ia i t s a
 ·obtain⟨rfl,rfl,rfl,rfl⟩:=D1i hj hi hr hs e;exact .inr fun z=>Maps.atKey_put_same hD.isMap (E1f (Oi hs ha)) _ _
 ·rcases hl j u r c hj hr hc with h1 | h1
  ·exact .inl fun z=>by rw[Maps.atKey_put_other (D8l e) _ _,h1]
  ·exact .inr fun z=>by rw[Maps.atKey_put_other (D8l e) _ _,h1]
end
end
section
structure Rg (w : World) (rb mb : Nat) (A : Option Addr) (q c : Nat) (K : List (List UInt8)) : Prop where
 bk:Bk w rb 166 [.slice A q c,.map (some mb)]
 hs:Hs w 0 w.heap.size (.slice A q c) K
 mp:RgM w mb K
 len:K.length=q
 small:q≤7
section
variable {w w' : World} {rb mb q c : Nat} {A : Option Addr} {K : List (List UInt8)}
theorem Rg.up (h:Rg w rb mb A q c K) (hb:Below w.heap.size w w'):Rg w' rb mb A q c K:=⟨h.bk.below hb h.bk.lt,(h.hs.below hb).more hb.size,h.mp.below hb,h.len,h.small⟩
theorem C7v (h:Rg w rb mb A q c K):Calls Tryz.prog 81 #[.pointer (some ⟨rb,0,none⟩)] w fun x w'=>x=.returned (.int .i64 (q:Int))∧Below w.heap.size w w':=by
 have f0:=h.bk.at_ (i:=0) rfl;go_enter Tryz.func81,Tryz.ntmps81;go_wp2_with fail;go_ret;exact ⟨rfl,Below.refl _ _⟩
end
end
end Go.Proofs.YtdfpoofbgjilgaaGreat
