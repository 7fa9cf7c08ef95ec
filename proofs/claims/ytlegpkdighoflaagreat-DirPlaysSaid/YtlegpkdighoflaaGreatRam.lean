/- A part of the proof of DirPlays. -/
import Derived.Outline
import Derived.RangeFuncNested
import Derived.RangeFuncBound
import Derived.RangeFuncCalls
import Derived.RangeFuncLeaves
import Derived.RangeFuncKeeps
import Derived.Shelf.Abstract
import Derived.Shelf.RegionOpen
import Derived.WalkKit
import Derived.OwnWalkIn
import Derived.TacticsInMore
import Derived.Test.YtlegpkdighoflaaGreatRag
import Derived.Test.YtlegpkdighoflaaGreatRal
import Derived.Test.YtlegpkdighoflaaGreatRaf
set_option linter.unusedVariables false
set_option linter.unusedSimpArgs false
set_option maxRecDepth 100000
set_option maxHeartbeats 40000000
namespace Go.Proofs.YtlegpkdighoflaaGreat
open Go Go.RowKit Sh
abbrev RL' (t n : TypeId) : Prop := ∀ (w : World) (ρ : Operand → Value) (dst : Option Tmp) (ty : TypeId) (pos : String) (after : Array Edge) (guard : Option (Nat × Bool)) (x : Operand),
    (execOp ρ { dst, op := .load t x, type := ty, pos, after, guard }).run Tryz.prog w = Mf n w (L3 Tryz.prog ρ { dst, op := .load t x, type := ty, pos, after, guard } w) (ρ x)
theorem LL' {t n : TypeId} {d : TypeDesc} (hu : Tryz.prog.underlying t = some d) (hi : (Tryz.prog.info? t).map (·.size) = some n) (hn : 0 < n := by decide) (hd : d.isRow = true := by rfl) : RL' t n :=
  fun w ρ dst ty pos after guard x => Ja w ρ dst ty pos after guard t n d x hn hu hd hi
abbrev RS' (t n : TypeId) : Prop := ∀ (w : World) (ρ : Operand → Value) (dst : Option Tmp) (ty : TypeId) (pos : String) (after : Array Edge) (guard : Option (Nat × Bool)) (x y : Operand),
    (execOp ρ { dst, op := .store t x y, type := ty, pos, after, guard }).run Tryz.prog w = Cj n w (L3 Tryz.prog ρ { dst, op := .store t x y, type := ty, pos, after, guard } w) (ρ x) (ρ y)
theorem SS' {t n : TypeId} (hi : (Tryz.prog.info? t).map (·.size) = some n) (hn : 0 < n := by decide) : RS' t n :=
  fun w ρ dst ty pos after guard x y => Gy w ρ dst ty pos after guard t n x y hn hi
abbrev RA' (t : TypeId) (c : Array Value) : Prop := ∀ (w : World) (ρ : Operand → Value) (dst : Option Tmp) (ty : TypeId) (pos : String) (after : Array Edge) (guard : Option (Nat × Bool)),
    (execOp ρ { dst, op := .alloc t, type := ty, pos, after, guard }).run Tryz.prog w = .ok (.value (.pointer (some ⟨w.heap.size, 0, none⟩))) (w.alloc (.cells c t))
abbrev RB' (t : TypeId) : Prop := ∀ (w : World) (ρ : Operand → Value) (dst : Option Tmp) (ty : TypeId) (pos : String) (after : Array Edge) (guard : Option (Nat × Bool)) (x : Operand),
    (execOp ρ { dst, op := .box t x, type := ty, pos, after, guard }).run Tryz.prog w = Xe t w (L3 Tryz.prog ρ { dst, op := .box t x, type := ty, pos, after, guard } w) (ρ x)
theorem BX' (t : TypeId) : RB' t := fun w ρ dst ty pos after guard x => A5n w ρ dst ty pos after guard t x
section
def pb (p:Pr):List UInt8:=p.1++p.2
def Gp (p:Pr):Prop:=p.1.length=32∧p.2.length=32
theorem Gp.len {p:Pr} (h:Gp p):(pb p).length=64:=by unfold pb;rw[List.length_append,h.1,h.2]
def Rl (l:List Pr):List UInt8:=(l.map pb).flatten
theorem B2d (l m:List Pr):Rl (l++m)=Rl l++Rl m:=by simp[Rl]
theorem C9w (p:Pr):Rl [p]=pb p:=by simp[Rl]
theorem A1d {l:List Pr} (h:∀p∈l,Gp p):(Rl l).length=l.length*64:=by
 induction l with
 | nil=>rfl
 | cons p l ih=>
  have h1:=ih fun q hq=>h q (by simp[hq]);have h2:=(h p (by simp)).len;simp only[Rl,List.map_cons,List.flatten_cons,List.length_append,List.length_cons]at h1 h2 ⊢;omega
theorem D4o {l:List Pr} (h:∀p∈l,Gp p):∀ {i:Nat} {p:Pr},l[i]?=some p→((Rl l).drop (i*64)).take 64=pb p:=by
 induction l with
 | nil=>intro i p hp;simp at hp
 | cons q l ih=>
  intro i p hp;have h2:=(h q (by simp)).len;cases i with
  | zero=>
   simp at hp;subst hp;simp only[Rl,List.map_cons,List.flatten_cons,Nat.zero_mul,List.drop_zero];rw[←h2,List.take_left]
  | succ i=>
   have:=ih (fun q hq=>h q (by simp[hq])) (i:=i) (p:=p) (by simpa using hp);simp only[Rl,List.map_cons,List.flatten_cons]at this ⊢;rw[show (i+1)*64=(pb q).length+i*64 by omega,←List.drop_drop,List.drop_left];exact this
def Ps (w:World) (lo B:Nat) (v:Value) (l:List Pr):Prop:=(∀p∈l,Gp p)∧∃A c,v=.slice A l.length c∧l.length≤c∧c≤maxLen∧Rd w lo B A (c8 (Rl l))
section
variable {w w' : World} {lo lo' B B' : Nat} {v : Value} {l : List Pr}
theorem Ps.below (h:Ps w lo B v l) (hb:Below B w w'):Ps w' lo B v l:=let ⟨h0,A,c,h1,h2,h3,h4⟩:=h;⟨h0,A,c,h1,h2,h3,h4.below hb⟩
theorem Ps.less (h:Ps w lo B v l) (hB:lo'≤lo):Ps w lo' B v l:=let ⟨h0,A,c,h1,h2,h3,h4⟩:=h;⟨h0,A,c,h1,h2,h3,h4.less hB⟩
theorem Ps.form (h:Ps w lo B v l):∃A c,v=.slice A l.length c∧l.length≤c∧c≤9223372036854775807:=by
 obtain⟨_,A,c,h1,h2,h3,_⟩:=h;exact ⟨A,c,h1,h2,by unfold maxLen at h3;exact h3⟩
theorem Ps.sub (h:Ps w lo B v l):∃g o c,(∀i p,l[i]?=some p→C8 w ⟨g,o+i*64,none⟩ 64=some (c8 (pb p))∧C8 w ⟨g,o+i*64,none⟩ 32=some (c8 p.1)∧C8 w ⟨g,o+i*64+32,none⟩ 32=some (c8 p.2))∧lo≤g∧g<B∧v=.slice (some ⟨g,o,none⟩) l.length c∧l.length≤c∧c≤9223372036854775807∨l=[]:=by
 obtain⟨h0,A,c,h1,h2,h3,h4⟩:=h;rcases Nat.eq_zero_or_pos l.length with h5 | h5
 ·exact ⟨0,0,0,.inr (List.eq_nil_of_length_eq_zero h5)⟩
 ·obtain⟨g,o,rfl,hl,hb,hc⟩:=h4.some (by rw[E4,A1d h0];omega);refine ⟨g,o,c,.inl ⟨fun i p hp=>?_,hl,hb,h1,h2,by unfold maxLen at h3;exact h3⟩⟩;have aE:i<l.length:=(List.getElem?_eq_some_iff.1 hp).1;have aF:=A1d h0;have aD:=D4o h0 hp;have aB:=h0 p (List.mem_of_getElem? hp);have aA:∀j,j<64→(c8 (pb p))[j]?=(c8 (Rl l))[i*64+j]?:=by intro j hj;rw[←aD];simp only[c8,List.getElem?_map,List.getElem?_take,List.getElem?_drop,if_pos hj]
  have hk:∀j,j<32→(c8 (pb p))[j]?=(c8 p.1)[j]?:=by intro j hj;simp only[c8,pb,List.map_append];rw[List.getElem?_append_left (by simp[aB.1];exact hj)]
  have hv:∀j,j<32→(c8 (pb p))[32+j]?=(c8 p.2)[j]?:=by intro j hj;simp only[c8,pb,List.map_append];rw[List.getElem?_append_right (by simp[aB.1])];simp[aB.1]
  refine ⟨Cc.2 ⟨by rw[E4,aB.len],fun j u hj=>?_⟩,Cc.2 ⟨by rw[E4,aB.1],fun j u hj=>?_⟩,Cc.2 ⟨by rw[E4,aB.2],fun j u hj=>?_⟩⟩
  ·have aC:j<64:=by have:=(List.getElem?_eq_some_iff.1 hj).1;rw[E4,aB.len]at this;exact this
   rw[Nat.add_assoc];exact hc _ _ (by rw[←aA j aC];exact hj)
  ·have aC:j<32:=by have:=(List.getElem?_eq_some_iff.1 hj).1;rw[E4,aB.1]at this;exact this
   rw[Nat.add_assoc];exact hc _ _ (by rw[←aA j (by omega),hk j aC];exact hj)
  ·have aC:j<32:=by have:=(List.getElem?_eq_some_iff.1 hj).1;rw[E4,aB.2]at this;exact this
   rw[Nat.add_assoc,Nat.add_assoc];exact hc _ _ (by rw[←aA (32+j) (by omega),hv j aC];exact hj)
end
def Fi (w:World) (base:Nat) (v:Value) (l:List Pr):Prop:=(∀p∈l,Gp p)∧w.ownsRow base 96 64 v l.length (c8 (Rl l))
theorem Fi.nil (w:World) (base:Nat):Fi w base (.slice none 0 0) []:=⟨by simp,World.ownsRow_nil w base _ _⟩
theorem Fi.below {w w':World} {base B:Nat} {v:Value} {l:List Pr} (h:Fi w base v l) (hb:Below B w w') (hB:w.heap.size≤B):Fi w' base v l:=by
 refine ⟨h.1,World.ownsRow.kept (row:=none) h.2 ⟨hb.os,hb.tape,hb.output,hb.size,fun k hk _=>hb.block k (by omega)⟩ ?_⟩;cases hv:v.ownBlock<;>simp
theorem Fi.kept {w w':World} {base:Nat} {v:Value} {l:List Pr} {row:Option Nat} (h:Fi w base v l) (hg:w.grownBy w' row) (hne:v.ownBlock=none∨v.ownBlock≠row):Fi w' base v l:=⟨h.1,World.ownsRow.kept h.2 hg hne⟩
theorem Fi.alloc {w:World} {base:Nat} {v:Value} {l:List Pr} (h:Fi w base v l) (o:Obj):Fi (w.alloc o) base v l:=⟨h.1,World.ownsRow.alloc h.2 o⟩
theorem Fi.drewN {w:World} {base:Nat} {v:Value} {l:List Pr} (h:Fi w base v l) (n:Nat):Fi (w.drewN n) base v l:=h
theorem Fi.ps {w:World} {base:Nat} {v:Value} {l:List Pr} (h:Fi w base v l):Ps w base w.heap.size v l:=by
 refine ⟨h.1,?_⟩;rcases h.2.2 with ⟨rfl,hn⟩ | ⟨g,cap,cur,rfl,hbg,hh,hr,hm,hsz,ht⟩
 ·rw[hn];have:l=[]:=List.eq_nil_of_length_eq_zero hn;subst this;exact ⟨none,0,rfl,Nat.le_refl _,by simp[maxLen],.inl rfl⟩
 ·refine ⟨_,cap,rfl,hr,hm,.inr ⟨g,0,rfl,hbg,(Array.getElem?_eq_some_iff.1 hh).1,fun j u hu=>?_⟩⟩;have:=h.2.cells (g:=g) rfl j u hu;rwa [U9]at this
theorem E0a:(Tryz.prog.info? 96).map (fun i=>(i.zero,i.size,i.bytes))=some (some (A8 (z8 64)),64,64):=by kernel_rfl
theorem D9q:(Tryz.prog.info? 96).map (·.size)=some 64:=by kernel_rfl
theorem D9r:((Tryz.prog.info? 96).bind (·.zero))=some (A8 (z8 64)):=by kernel_rfl
theorem C2z:Tryz.prog.underlying 96=some (.struct (S4 Tryz.prog 96)):=by kernel_rfl
theorem D5f (w:World):(Fz (S4 Tryz.prog 96)).run Tryz.prog w=.ok #[(0,32),(32,32)] w:=by kernel_rfl
def Jp (n:Nat) (t:TypeId) (w:World) (raw:Result Next):Value→Result Next
 | .agg cs=>if cs.size=n then .ok (.value (.slice (some ⟨w.heap.size,0,none⟩) 1 1)) (w.alloc (.cells cs t)) else raw
 | _=>raw
@[go_sem] theorem E8t (n : Nat) (t : TypeId) (w : World) (raw : Result Next) (l : List UInt8) : Jp n t w raw (A8 l) = if l.length = n then .ok (.value (.slice (some ⟨w.heap.size, 0, none⟩) 1 1)) (w.alloc (.cells (c8 l).toArray t)) else raw := by
 have e:Jp n t w raw (A8 l)=if (c8 l).toArray.size=n then .ok (.value (.slice (some ⟨w.heap.size,0,none⟩) 1 1)) (w.alloc (.cells (c8 l).toArray t)) else raw:=rfl;rw[e];simp only[List.size_toArray,E4]
theorem D3c {P:Program} (w:World) (ρ:Operand→Value) (dst:Option Tmp) (ty:TypeId) (pos:String) (after:Array Edge) (guard:Option (Nat×Bool)) (t e n:Nat) (z:Value) (x:Operand)
 (ht:P.underlying t=some (.slice e)) (hi:(P.info? e).map (fun i=>(i.zero,i.size,i.bytes))=some (some z,n,n)) (hz:z.cells.size=n) (hn:n≤16777216) (hp:n≠0) :
 (execOp ρ { dst,op:=.buildSlice t 1 #[(0,x)],type:=ty,pos,after,guard }).run P w=Jp n e w (L3 P ρ { dst,op:=.buildSlice t 1 #[(0,x)],type:=ty,pos,after,guard } w) (ρ x):=by
 generalize hv:ρ x=v;unfold Jp;split
 ·rename_i cs
  split
  ·rename_i hcs
   cases hq:P.info? e with
   | none=>simp[hq]at hi
   | some i=>
    simp only[hq,Option.map_some,Option.some.injEq,Prod.mk.injEq]at hi;obtain⟨h1,h2,_⟩:=hi;have hf:Instr.fill (fun i=>some (i*n,n)) ((Array.range (1*n)).map (fun j=>z.cells[j % z.cells.size]!)) [(0,Value.agg cs)]=some cs:=by
     have aA:((Array.range (1*n)).map (fun j=>z.cells[j % z.cells.size]!)).size=n:=by simp
     generalize (Array.range (1*n)).map (fun j=>z.cells[j % z.cells.size]!)=m at *;have h3:=Tu (fun i=>some (i*n,n)) [(0,Value.agg cs)] [(0,cs.toList)] m.toList ⟨by simp[hcs],rfl,by simp[hcs,aA],trivial⟩;rw[Array.toArray_toList]at h3;rw[h3];simp[Hd,Bg,hcs,aA,List.drop_eq_nil_of_le]
    have aB:¬ (16777216<n):=by omega
    have hr:(Instr.buildSlice t 1 #[(0,Value.agg cs)]).run P w=.ok (.slice (some ⟨w.heap.size,0,none⟩) 1 1) (w.alloc (.cells cs e)):=by unfold Instr.buildSlice;simp only[Sem.run_bind,run_underlying ht,Result.andThen_ok,sizeOf,typeInfo,Sem.run_pure];simp only[Nat.one_mul]at hf;simp[hq,h2,aB,hp,zeroValue,typeInfo,h1,newRow];rw[hf];rfl
    simp only[execOp,List.map_toArray,List.map_cons,List.map_nil,hv,Sem.run_bind,hr,Result.andThen_ok,Sem.run_pure]
  ·rfl
 ·rfl
section
variable (w : World) (ρ : Operand → Value) (dst : Option Tmp) (ty : TypeId) (pos : String) (after : Array Edge) (guard : Option (Nat × Bool))
@[go_sem ↓ high] theorem E6n:RL' 96 64:=LL' C2z D9q
@[go_sem ↓ high] theorem E2z:RS' 96 64:=SS' D9q
@[go_sem ↓ high] theorem E1x:RA' 96 (c8 (z8 64)).toArray:=fun w ρ dst ty pos after guard=>O9 w ρ dst ty pos after guard 96 (A8 (z8 64)) D9r
@[go_sem ↓ high] theorem F2u:RB' 96:=BX' _
@[go_sem ↓ high] theorem F2l (x : Operand) :
 (execOp ρ { dst,op:=.buildSlice 52 1 #[(0,x)],type:=ty,pos,after,guard }).run Tryz.prog w=Jp 64 96 w (L3 Tryz.prog ρ { dst,op:=.buildSlice 52 1 #[(0,x)],type:=ty,pos,after,guard } w) (ρ x):=
 D3c w ρ dst ty pos after guard 52 96 64 (A8 (z8 64)) x Tryz.underlying52 E0a (by simp[A8,Value.cells]) (by decide) (by decide)
end
noncomputable def Zl (w:World) (raw:Result Next) (k v:Value):Result Next:=
 match Dq k,Dq v with
 | some k,some v=>if k.length=32∧v.length=32 then .ok (.value (A8 (pb (k,v)))) w else raw
 | _,_=>raw
@[go_sem] theorem E4r (w : World) (raw : Result Next) (k v : List UInt8) (hk : k.length = 32) (hv : v.length = 32) : Zl w raw (A8 k) (A8 v) = .ok (.value (A8 (pb (k, v)))) w := by
 unfold Zl;rw[Dm,Dm];simp[hk,hv]
theorem C7s (k v:List UInt8) (hk:k.length=32) (hv:v.length=32) (w:World):(Instr.build 96 #[(0,A8 k),(1,A8 v)]).run Tryz.prog w=.ok (A8 (pb (k,v))) w:=by
 have hz:(A8 (z8 64)).cells.toList=c8 (z8 64):=rfl;have hl:(c8 (z8 64)).length=64:=by simp
 have h1:=U4 C2z D9r w (D5f w) #[(0,A8 k),(1,A8 v)] [(0,c8 k),(32,c8 v)] (by
  rw[hz,hl];exact ⟨by simp[hk],rfl,by simp[hk],by simp[hv],rfl,by simp[hv],trivial⟩)
 refine h1.trans (congrArg (fun (cs:List Value)=>Result.ok (Value.agg cs.toArray) w) ?_);rw[hz];simp[Hd,Bg,hk,hv,List.take_append,List.drop_append,List.drop_eq_nil_of_le,List.take_of_length_le,pb,c8]
@[go_sem ↓ high] theorem E1v (w : World) (ρ : Operand → Value) (dst : Option Tmp) (ty : TypeId) (pos : String) (after : Array Edge) (guard : Option (Nat × Bool)) (x y : Operand) :
 (execOp ρ { dst,op:=.build 96 #[(0,x),(1,y)],type:=ty,pos,after,guard }).run Tryz.prog w=Zl w (L3 Tryz.prog ρ { dst,op:=.build 96 #[(0,x),(1,y)],type:=ty,pos,after,guard } w) (ρ x) (ρ y):=by
 generalize hx:ρ x=a;generalize hy:ρ y=b;unfold Zl;split
 ·rename_i k v h1 h2
  replace h1:=U8 h1;replace h2:=U8 h2;split
  ·rename_i h
   refine N9 w ρ dst ty pos after guard _ _ _ ?_;simp only[List.map_toArray,List.map_cons,List.map_nil,hx,hy,h1,h2];exact C7s k v h.1 h.2 w
  ·rfl
 ·rfl
section
variable {w : World} {g : Nat} {t : TypeId} {p : Pr}
theorem Nj (h:Bk w g t (c8 (pb p))) (hp:Gp p):C8 w ⟨g,0,none⟩ 32=some (c8 p.1):=by
 have:=h.rowMid 0 32 (by rw[E4,hp.len];omega);rw[this];simp[pb,c8,hp.1]
theorem Wx (h:Bk w g t (c8 (pb p))) (hp:Gp p):C8 w ⟨g,32,none⟩ 32=some (c8 p.2):=by
 have:=h.rowMid 32 32 (by rw[E4,hp.len];omega);rw[this];simp[pb,c8,hp.1,hp.2,List.take_of_length_le]
theorem C9k (h:Bk w g t (c8 (pb p))) (hp:Gp p):C8 w ⟨g,0,none⟩ 64=some (c8 (pb p)):=by
 have:=h.rows;rwa [E4,hp.len]at this
theorem Bk.fresh (w:World) (t:TypeId) {l m:List UInt8} (h:l.length=m.length):Bk (C4 (w.alloc (.cells (c8 l).toArray t)) ⟨w.heap.size,0,none⟩ (c8 m)) w.heap.size t (c8 m):=(Bk.new w t (c8 l)).puts (by simp[h])
@[go_sem] theorem E5c (w : World) (t : TypeId) (p : Pr) (hp : Gp p) : C8 (C4 (w.alloc (.cells (c8 (z8 64)).toArray t)) ⟨w.heap.size, 0, none⟩ (c8 (pb p))) ⟨w.heap.size, 0, none⟩ 32 = some (c8 p.1) := Nj (Bk.fresh w t (by simp [hp.len])) hp
@[go_sem] theorem E6q (w : World) (t : TypeId) (p : Pr) (hp : Gp p) : C8 (w.alloc (.cells (c8 (pb p)).toArray t)) ⟨w.heap.size, 0, none⟩ 32 = some (c8 p.1) := Nj (Bk.new w t _) hp
@[go_sem] theorem E6r (w : World) (t : TypeId) (p : Pr) (hp : Gp p) : C8 (w.alloc (.cells (c8 (pb p)).toArray t)) ⟨w.heap.size, 32, none⟩ 32 = some (c8 p.2) := Wx (Bk.new w t _) hp
end
section
variable {w : World} {base : Nat} {v : Value} {l : List Pr} {ops : Array Oper} {rest : List Oper} {o : Oper} {a : Act} {Q : Exit → Act → World → Prop}
theorem Fi.form {w:World} {base:Nat} {v:Value} {l:List Pr} (h:Fi w base v l):∃A c,v=.slice A l.length c∧l.length≤c∧c≤9223372036854775807:=h.ps.form
theorem A1k {w w':World} {base:Nat} {v:Value} {l:List Pr} (hown:Fi w base v l) (hg:w.grownBy w' v.ownBlock) (hb:base≤w.heap.size):Below base w w':=
 (Below.refl _ _).grown hg hb fun k hk=>(hown.2.lt k hk).1
theorem E1q (hgd:o.guard=none) (s x:Operand) (ho:o.op=.call { callee:=.builtin .append,args:=#[s,x],argTypes:=#[52,52] })
 (hs:a.eval s=v) (hown:Fi w base v l) (p:Pr) (hp:Gp p) (m:List UInt8) (hm:m=pb p) {N:Nat} (hx:a.eval x=.slice (some ⟨N,0,none⟩) 1 1) (hN:w.heap.size=N) (hsz:l.length≤1099511627776) (hb:base≤w.heap.size)
 (h:∀A c w',(l.length+1)≤c→c≤9223372036854775807→Fi w' base (.slice A (l.length+1) c) (l++[p])→Below base w w'→w.grownBy w' v.ownBlock→((Value.slice A (l.length+1) c).ownBlock=v.ownBlock∨(Value.slice A (l.length+1) c).ownBlock=some w.heap.size∨(Value.slice A (l.length+1) c).ownBlock=some (w.heap.size+1))→wpList Tryz.prog ops Q rest (a.put o.dst (.slice A (l.length+1) c)) w'):wpList Tryz.prog ops Q (o::rest) a (w.alloc (.cells (c8 m).toArray 96)):=
 wpList_plain hgd fun _ hK=>by
  subst hm hN;obtain⟨i0,aD,aE,aF,aG⟩:=info_parts E0a;have hB:=Bk.new w 96 (c8 (pb p));have aB:∀u∈c8 (pb p),u.oneCell'=true:=by intro u hu;obtain⟨x,_,rfl⟩:=List.mem_map.1 hu;rfl
  have aA:=hown.alloc (.cells (c8 (pb p)).toArray 96);obtain⟨v',w',hr,h6,h7,_,h8⟩:=run_append_own_at (P:=Tryz.prog) (w.alloc (.cells (c8 (pb p)).toArray 96)) base 52 o.type 96 i0 (A8 (z8 64)) 64 64 Tryz.underlying52 aD aE aF aG (by simp[A8,Value.cells]) (by decide) v l.length (c8 (Rl l)) aA.2
   ⟨w.heap.size,0,none⟩ 1 1 (c8 (pb p)) (by simp[hp.len]) (fun j u hj=>by rw[U9,Nat.zero_add];exact hB.at_ hj) aB
   (by simp only[maxLen];omega) (by omega) (by simp;omega)
  have h2:Fi w' base v' (l++[p]):=by
   refine ⟨fun q hq=>?_,?_⟩
   ·rcases List.mem_append.1 hq with hq | hq
    ·exact hown.1 q hq
    ·simp at hq;subst hq;exact hp
   ·rw[List.length_append,B2d,C9w];have:c8 (Rl l++pb p)=c8 (Rl l)++c8 (pb p):=by simp[c8]
    rw[this];exact h6
  unfold Oper.wp execOp;simp only[ho,resolve,invoke,builtin,Sem.run_bind,Sem.run_pure,Result.andThen_ok,List.map_toArray,List.map_cons,List.map_nil,hs,hx,hr];obtain⟨A,c,hA,aC,aH⟩:=h2.form;have aI:(l++[p]).length=l.length+1:=by simp
  rw[aI]at hA aC;subst hA;have aJ:w.grownBy (w.alloc (.cells (c8 (pb p)).toArray 96)) v.ownBlock:=⟨rfl,rfl,rfl,by simp,fun k hk _=>Below.heap_alloc _ _ _ hk⟩;have hg:=aJ.trans h7;refine hK _ _ (h A c w' aC aH h2 (A1k hown hg hb) hg ?_);rcases h8 with h8 | h8
  ·exact .inl h8
  ·exact .inr (.inr (by simpa using h8))
end
end
section
theorem C0m:∀(n x y:Nat),x<y→y<2 ^ n→∃j,j<n∧(∀i,j<i→x.testBit i=y.testBit i)∧x.testBit j=false∧y.testBit j=true
 | 0,x,y,h,hy=>by simp at hy;omega
 | n+1,x,y,h,hy=>by
  by_cases hh:x / 2<y / 2
  ·obtain⟨j,h1,h2,h3,h4⟩:=C0m n (x / 2) (y / 2) hh (by rw[Nat.pow_succ]at hy;omega);refine ⟨j+1,by omega,fun i hi=>?_,by rw[Nat.testBit_succ];exact h3,by rw[Nat.testBit_succ];exact h4⟩;obtain⟨i,rfl⟩:∃i',i=i'+1:=⟨i-1,by omega⟩;rw[Nat.testBit_succ,Nat.testBit_succ];exact h2 i (by omega)
  ·have he:x / 2=y / 2:=by omega
   refine ⟨0,by omega,fun i hi=>?_,?_,?_⟩
   ·obtain⟨i,rfl⟩:∃i',i=i'+1:=⟨i-1,by omega⟩;rw[Nat.testBit_succ,Nat.testBit_succ,he]
   ·rw[Nat.testBit_zero];simp;omega
   ·rw[Nat.testBit_zero];simp;omega
theorem A0y {a b:List UInt8} {i:Nat} (hi:i<32) (he:∀j,j<i→g8 a j=g8 b j) (h:g8 a i<g8 b i):klt a b:=by
 obtain⟨j,h1,h2,h3,h4⟩:=C0m 8 (g8 a i).toNat (g8 b i).toNat (UInt8.lt_iff_toNat_lt.1 h) (UInt8.toNat_lt _);refine ⟨8*i+(7-j),by omega,fun m hm=>?_,?_,?_⟩
 ·rw[Fg,Fg];by_cases hmi:m / 8<i
  ·rw[he _ hmi]
  ·rw[show m / 8=i by omega];exact h2 _ (by omega)
 ·rw[Fg,show (8*i+(7-j)) / 8=i by omega,show 7-(8*i+(7-j)) % 8=j by omega];exact h3
 ·rw[Fg,show (8*i+(7-j)) / 8=i by omega,show 7-(8*i+(7-j)) % 8=j by omega];exact h4
open Classical in
noncomputable def Ct (a b:List UInt8):Bool:=decide (klt a b)
theorem P8 {a b:List UInt8}:Ct a b=true↔klt a b:=by unfold Ct;simp
theorem B8u {a b:List UInt8} {i:Nat} (hi:i<32) (he:∀j,j<i→g8 a j=g8 b j) (h:g8 a i≠g8 b i):decide (g8 a i<g8 b i)=Ct a b:=by
 by_cases hlt:g8 a i<g8 b i
 ·rw[decide_eq_true hlt,P8.2 (A0y hi he hlt)]
 ·rw[decide_eq_false hlt];have h2:g8 b i<g8 a i:=by rw[UInt8.lt_iff_toNat_lt]at hlt ⊢;have:(g8 a i).toNat≠(g8 b i).toNat:=fun e=>h (UInt8.toNat_inj.1 e);omega
  have h3:=A0y hi (fun j hj=>(he j hj).symm) h2;cases hk:Ct a b with
  | false=>rfl
  | true=>exact absurd (P8.1 hk) h3.asymm
theorem B3e {a b:List UInt8} (ha:a.length=32) (hb:b.length=32) (h:∀j,j<32→g8 a j=g8 b j):a=b:=by
 apply List.ext_getElem (by omega);intro i h1 h2;have:=h i (by omega);unfold g8 at this;simpa [h1,h2] using this
theorem B7f (a:List UInt8):Ct a a=false:=by
 cases h:Ct a a with
 | false=>rfl
 | true=>exact absurd rfl (P8.1 h).ne
noncomputable def E6x (k:List UInt8) (m:List Pr):Bool:=m.any fun q=>!Ct q.1 k
noncomputable def E7q (k x:List UInt8) (m:List Pr):List Pr:=(m.filter fun q=>Ct q.1 k)++(if E6x k m then [(k,x)] else [])++(m.filter fun q=>Ct k q.1)
noncomputable def B2b (k x:List UInt8) (m:List Pr):List Pr:=(m.filter fun q=>Ct q.1 k)++[(k,x)]++(m.filter fun q=>Ct k q.1)
def D6f (l:List Pr):Prop:=(∀p∈l,p.1.length=32∧p.2.length=32)∧l.Pairwise fun x y=>klt x.1 y.1
section
variable {k x : List UInt8} {m : List Pr} {q : Pr}
theorem F4r (hk:k.length=32) (hx:x.length=32) (h:∀p∈m,p.1.length=32∧p.2.length=32):∀p∈E7q k x m,p.1.length=32∧p.2.length=32:=by
 intro p hp;unfold E7q at hp;simp only[List.mem_append,List.mem_filter]at hp;rcases hp with (hp | hp) | hp
 ·exact h p hp.1
 ·split at hp
  ·simp at hp;subst hp;exact ⟨hk,hx⟩
  ·simp at hp
 ·exact h p hp.1
theorem C3o (hk:k.length=32) (hx:x.length=32) (h:D6f m):D6f (B2b k x m):=by
 constructor
 ·intro p hp;simp only[B2b,List.mem_append,List.mem_filter,List.mem_singleton]at hp;rcases hp with (hp | rfl) | hp
  ·exact h.1 p hp.1
  ·exact ⟨hk,hx⟩
  ·exact h.1 p hp.1
 ·unfold B2b;rw[List.pairwise_append,List.pairwise_append];refine ⟨⟨h.2.filter _,List.pairwise_singleton _ _,fun a ha b hb=>?_⟩,h.2.filter _,fun a ha b hb=>?_⟩
  ·simp at hb;subst hb;exact P8.1 (List.mem_filter.1 ha).2
  ·have aA:=P8.1 (List.mem_filter.1 hb).2;rcases List.mem_append.1 ha with ha | ha
   ·exact (P8.1 (List.mem_filter.1 ha).2).trans aA
   ·simp at ha;subst ha;exact aA
theorem D3a (hk:k.length=32) (h:D6f m) (p:Pr):p∈B2b k x m↔p=(k,x)∨(p∈m∧p.1≠k):=by
 simp only[B2b,List.mem_append,List.mem_filter,List.mem_singleton];constructor
 ·rintro ((⟨h1,h2⟩ | rfl) | ⟨h1,h2⟩)
  ·exact .inr ⟨h1,(P8.1 h2).ne⟩
  ·exact .inl rfl
  ·exact .inr ⟨h1,fun e=>(P8.1 h2).ne e.symm⟩
 ·rintro (rfl | ⟨h1,h2⟩)
  ·exact .inl (.inr rfl)
  ·rcases klt.total (h.1 p h1).1 hk h2 with h3 | h3
   ·exact .inl (.inl ⟨h1,P8.2 h3⟩)
   ·exact .inr ⟨h1,P8.2 h3⟩
end
theorem Ok.rise {t:Tr} {d:Nat} {P:Nat→Bool} (ok:Ok d P t):D6f t.pairs:=⟨fun p hp=>⟨(Ok.keys ok p hp).1,(Ok.keys ok p hp).2.1⟩,ok.sorted⟩
theorem C4j {k x:List UInt8} {t:Tr} {P:Nat→Bool} (hk:k.length=32) (hx:x.length=32) (ok:Ok 0 P t):B2b k x t.pairs=(Jt k x 256 0 t).pairs:=by
 have hi:=Rg k x hk hx 256 0 t P (by omega) (fun i hi=>by omega) ok;refine Vp (C3o hk hx ok.rise).2 hi.sorted fun p=>?_;rw[D3a hk ok.rise,Hh k x hk 256 0 t P (by omega) (fun i hi=>by omega) ok]
end
theorem D0s (a b:List UInt8) (ha:a.length=32) (hb:b.length=32) (w:World) :
 Calls Tryz.prog 55 #[A8 a,A8 b] w fun e w'=>e=.returned (.bool (Ct a b))∧Below w.heap.size w w':=by
 go_enter Tryz.func55,Tryz.ntmps55;go_wp2_with fail;obtain⟨w0,aA⟩:=E9 ((w.alloc (.cells (c8 a).toArray 23)).alloc (.cells (c8 b).toArray 23));rw[←aA];have B0:Below w.heap.size w w0:=by rw[aA];exact (Bh _ _).alloc (by simp) _
 have K0:Bk w0 w.heap.size 23 (c8 a):=by rw[aA];exact (Bk.new _ _ _).alloc _
 have V0:Bk w0 (w.heap.size+1) 23 (c8 b):=by rw[aA];have:=Bk.new (w.alloc (.cells (c8 a).toArray 23)) 23 (c8 b);simpa using this
 clear aA;go_loopw [6] (fun t wr=>∃i:Nat,i≤32∧t=.int .i64 (i:Int)∧(∀j,j<i→g8 a j=g8 b j)∧Bk wr w.heap.size 23 (c8 a)∧Bk wr (w.heap.size+1) 23 (c8 b)∧Below w.heap.size w wr) (fun t _=>32-(intOf t).toNat)
 case atStart=>exact ⟨0,by omega,rfl,fun j hj=>by omega,K0,V0,B0⟩
 case round=>
  clear K0 V0 B0;obtain⟨i,hi,rfl,he,K,V,B⟩:=hrel;by_cases hlt:i<32
  ·have ca:wr.cell? ⟨w.heap.size,i,none⟩=some (.int .u8 (n8 (g8 a i))):=K.at_ (Eu (by omega));have cb:wr.cell? ⟨w.heap.size+1,i,none⟩=some (.int .u8 (n8 (g8 b i))):=V.at_ (Eu (by omega));have hl:Hid (g8 a i≠g8 b i→decide (g8 a i<g8 b i)=Ct a b):=Lib.hid fun h=>B8u hlt he h;have hs:Hid (g8 a i=g8 b i→∀j,j<i+1→g8 a j=g8 b j):=Lib.hid fun h j hj=>by
    by_cases hji:j<i
    ·exact he j hji
    ·rw[show j=i by omega];exact h
   clear he;generalize g8 a i=x at *;generalize g8 b i=y at *;by_cases hxy:x=y
   ·have aC:(n8 x != n8 y)=false:=by rw[D0a];simp[hxy]
    go_wp2_with fail;go_quiet (fail);go_wp2_with fail;go_round;case rel=>exact ⟨i+1,by omega,by go_num,hs.out hxy,K.drewN nq,V.drewN nq,K9 B nq⟩
    case measure=>simp[intOf];omega
   ·have aC:(n8 x != n8 y)=true:=by rw[D0a];simp[hxy]
    go_wp2_with fail;go_quiet (fail);go_wp2_with fail;go_quiet (fail);go_wp2_with fail;go_ret;refine ⟨?_,K9 (K9 B _) _⟩;rw[←hl.out hxy];have aB:decide (n8 x<n8 y)=decide (x<y):=by
     unfold n8;simp only[UInt8.lt_iff_toNat_lt];simp
    rw[←aB];rfl
  ·obtain rfl:i=32:=by omega
   have aD:a=b:=B3e ha hb he;clear he;have e:((32:Nat):Int)=32:=rfl;rw[e];go_wp2_with fail;go_ret;refine ⟨?_,B⟩;rw[aD,B7f];rfl
theorem Kv {α:Type} {l:List α} {i:Nat} {q:α} (h:l[i]?=some q):l.take (i+1)=l.take i++[q]:=by rw[List.take_add_one,h];rfl
theorem By.of_row {w:World} {g o n:Nat} {l:List UInt8} (h:C8 w ⟨g,o,none⟩ n=some (c8 l)) (hg:g<w.heap.size) (hn:n≤9223372036854775807):By w 0 w.heap.size (.slice (some ⟨g,o,none⟩) n n) l:=by
 obtain⟨h1,h2⟩:=Cc.1 h;rw[E4]at h1;subst h1;exact By.mk_ (Nat.le_refl _) (by unfold maxLen;exact hn) (.inr ⟨g,o,rfl,Nat.zero_le _,hg,fun j u hj=>h2 j u hj⟩)
def A4o (u v:Value):Prop:=∀g,u.ownBlock=some g→v.ownBlock≠some g
theorem A4o.symm {u v:Value} (h:A4o u v):A4o v u:=fun g h1 h2=>h g h2 h1
theorem Fi.apart {w w':World} {base:Nat} {u v:Value} {l:List Pr} (h:Fi w base v l) (ha:A4o u v) (hg:w.grownBy w' u.ownBlock):Fi w' base v l:=by
 refine h.kept hg ?_;cases hv:v.ownBlock with
 | none=>exact .inl rfl
 | some g=>exact .inr fun e=>ha g e.symm hv
theorem Fi.newApart {w:World} {base:Nat} {u u' v:Value} {l:List Pr} (h:Fi w base v l) (ha:A4o u v) (hu:u'.ownBlock=u.ownBlock∨u'.ownBlock=some w.heap.size∨u'.ownBlock=some (w.heap.size+1)):A4o u' v:=fun g h1 h2=>by
 have h3:=(h.2.lt g h2).2;rcases hu with e | e | e
 ·exact ha g (e▸h1) h2
 ·rw[e]at h1;injection h1 with h1;omega
 ·rw[e]at h1;injection h1 with h1;omega
def Wq (b:Bool) (d:Nat) (m:List Pr):List Pr:=m.filter fun q=>M5 q.1 d==b
theorem B3s {b:Bool} {d:Nat} {m:List Pr} {q:Pr} (h:M5 q.1 d=b):Wq b d (m++[q])=Wq b d m++[q]:=by simp[Wq,List.filter_append,h]
theorem C0t {b:Bool} {d:Nat} {m:List Pr} {q:Pr} (h:M5 q.1 d = !b):Wq b d (m++[q])=Wq b d m:=by simp[Wq,List.filter_append,h]
theorem B3m (b:Bool) (d:Nat) (m:List Pr):(Wq b d m).length≤m.length:=List.length_filter_le _ _
theorem E2t {l r:Tr} {d:Nat} {P:Nat→Bool} (ok:Ok d P (.nd l r)):Wq false d (Tr.nd l r).pairs=l.pairs:=by
 unfold Wq;simp only[Tr.pairs,List.filter_append];rw[List.filter_eq_self.2 (fun x hx=>by simp[ok.left x hx]),List.filter_eq_nil_iff.2 (fun x hx=>by simp[ok.right x hx]),List.append_nil]
theorem E3z {l r:Tr} {d:Nat} {P:Nat→Bool} (ok:Ok d P (.nd l r)):Wq true d (Tr.nd l r).pairs=r.pairs:=by
 unfold Wq;simp only[Tr.pairs,List.filter_append];rw[List.filter_eq_nil_iff.2 (fun x hx=>by simp[ok.left x hx]),List.filter_eq_self.2 (fun x hx=>by simp[ok.right x hx]),List.nil_append]
theorem B4e (t:Tr):∀(d:Nat) (di:Int) (P:Nat→Bool) (v:Value) (w:World),di=(d:Int)→Ok d P t→d≤256→t.len≤274877906944→Ps w 0 w.heap.size v t.pairs→
 Calls Tryz.prog 35 #[v,.int .i64 di] w fun e w'=>e=.returned (A8 t.root)∧Below w.heap.size w w':=by
 induction t with
 | e=>
  intro d di P v w aU ok hd aF hv;obtain⟨A,c,aI,aV,bG⟩:=hv.form;subst aI;go_enter Tryz.func35,Tryz.ntmps35;go_wp2_with fail;exact bodyPost_ret (C5 rfl _ _ _ _ _ _ rfl ((Bk.new w _ _).puts (vs:=c8 (z8 32)) (by simp)) Tryz.underlying23 rfl (by simp[J9])) rfl ⟨rfl,C0 (Bh _ _) (Nat.le_refl _) _⟩
 | lf k x=>
  intro d di P v w aU ok hd aF hv;have hk:=ok.1;have hx:=ok.2.1;obtain⟨A,c,aI,aV,bG⟩:=hv.form;have aD:=hv.sub;have e1:(Tr.lf k x).pairs.length=1:=rfl;rw[e1]at aI aV;rw[e1]at aD;subst aI;obtain⟨g,o,c',hs⟩:=aD;rcases hs with ⟨hrow,_,hg,hA,_,_⟩ | hs
  ·injection hA with hA _ hA3;subst hA hA3;have hr:=hrow 0 (k,x) rfl;obtain⟨_,bH,bI⟩:=hr;simp only[Nat.zero_mul,Nat.add_zero]at bH bI;clear hrow;go_enter Tryz.func35,Tryz.ntmps35;go_wp2_with fail;obtain⟨w0,aE⟩:=E9 (w.alloc (Obj.cells (c8 (z8 32)).toArray 23));rw[←aE];have B0:=BA' aE;have R0:=KN' aE;have aW:w0.heap.size=w.heap.size+1:=by rw[aE];simp
   clear aE;have z0:=R0.lt;refine Lz (A:=?A) (fun W=>Below w.heap.size w0 W) [1,2,3,4,5,6,7,8] [0,9,10,11] (by kernel_rfl) (by kernel_rfl) (by kernel_rfl) (by kernel_rfl) rfl rfl (by kernel_rfl) (by kernel_rfl) ?hS (fun W hW=>?h) (fun hS=>?t);case hS=>exact (Below.refl _ _).drew
   case h=>exact Gq
   case t=>
    simp only[pick,Wt];refine H9 (by rfl) (fun Q' hQ'=>?_);go_wp2;obtain⟨w1,aQ⟩:=E9 ((w0.alloc (Obj.cells #[Value.int IntKind.u8 0] 5)).drew);rw[←aQ];have B1:Below w0.heap.size w0 w1:=by rw[aQ];exact (Bh _ _).drew
    have y0:By w1 0 w1.heap.size (.slice (some ⟨w0.heap.size,0,none⟩) 1 1) [0]:=by rw[aQ];exact (By.build w0 5 (0,0) [0] (by simp)).more (by simp)
    refine hQ' _ _ (B1.mono B0.size) ?_;clear aQ hQ' hS;refine H9 (by rfl) (fun Q' hQ'=>?_);go_wp2;rw[aW]at y0 B1;obtain⟨w2,aR⟩:=E9 (w1.alloc (Obj.cells #[.slice (some ⟨w.heap.size+1,0,none⟩) 1 1,.slice (some ⟨g,o,none⟩) 32 32,.slice (some ⟨g,o+32,none⟩) 32 32] 45));rw[←aR];have zb:=B1.size;have B2:Below (w.heap.size+1) w0 w2:=by rw[aR];exact B1.alloc (by omega) _
    have bJ:Below w.heap.size w w1:=B0.trans (B1.mono (Nat.le_succ _));have yk:By w1 0 w1.heap.size (.slice (some ⟨g,o,none⟩) 32 32) k:=By.of_row ((N6 bJ hg).trans bH) (by omega) (by omega);have yv:By w1 0 w1.heap.size (.slice (some ⟨g,o+32,none⟩) 32 32) x:=By.of_row ((N6 bJ hg).trans bI) (by omega) (by omega);have p2:J7 w2 w2.heap.size (.slice (some ⟨w1.heap.size,0,none⟩) 3 3) [[0],k,x]:=by rw[aR];have:=J7.three w1 45 _ _ _ _ _ _ y0 yk yv;simpa using this
    refine hQ' _ _ (B2.mono (Nat.le_succ _)) ?_;clear aR hQ' y0 yk yv;refine H9 (by rfl) (fun Q' hQ'=>?_);go_wp2_with fail;refine (Wg _ [[0],k,x] w2 p2 (by simp[hk,hx])).mono ?_;rintro e w3 ⟨rfl,bK⟩;have cA:=B2.size;have B3:=B2.trans (bK.mono (B':=w.heap.size+1) (by omega));have aA:[[0],k,x].flatten=[0]++k++x:=by simp
    rw[aA];have hl:=Cw ([0]++k++x);have bL:(Tr.lf k x).root=Fo ([0]++k++x):=rfl;have bS:=Lib.hid bL;clear bL;generalize Fo ([0]++k++x)=r at *;clear bK p2 aA;have R3:=R0.below B3 (by omega);have aX:=Mh 32 R3 (by simp);go_wp2_with fail;refine hQ' _ _ (B3.mono (Nat.le_succ _)) ?_;clear hQ';refine H9 (by rfl) (fun Q' hQ'=>?_);go_wp2_with fail;refine hQ' _ _ (C0 (B3.mono (Nat.le_succ _)) (by simp) _) ?_;clear hQ';refine He ?_;go_wp2_with fail;refine bodyPost_ret (C5 rfl _ _ _ _ _ _ rfl (R3.puts (vs:=c8 r) (by simp[hl])) Tryz.underlying23 rfl (by simp[J9,hl])) rfl ⟨?_,C0 (B0.trans (B3.mono (Nat.le_succ _))) (by simp) _⟩;rw[bS.out];rfl
  ·cases hs
 | nd l r ihl ihr=>
  intro d di P v w aU ok hd aF hv;have bT:=ok.1;have cB:=ok.2.1;have aJ:(Tr.nd l r).pairs.length=l.len+r.len:=by rw[←Tr.len_pairs];rfl
  have bM:l.len+r.len≤274877906944:=aF;have bN:Hid (Wq false d (Tr.nd l r).pairs=l.pairs):=Lib.hid (E2t ok);have bO:Hid (Wq true d (Tr.nd l r).pairs=r.pairs):=Lib.hid (E3z ok);have aA:Hid ((Tr.nd l r).root=Fo ([1]++l.root++r.root)):=Lib.hid rfl;have aY:=Tr.root_length l;have aZ:=Tr.root_length r;obtain⟨A,c,aI,aV,bG⟩:=hv.form;have aD:=hv.sub;have bA:=hv.1;generalize hL:(Tr.nd l r).pairs=L at *;clear hv hL;subst aI;have cC:2≤L.length:=by omega
  have cD:L.length≤274877906944:=by omega
  clear aJ;have bU:((L.length:Int)==0)=false:=by rw[beq_eq_false_iff_ne];omega
  have bV:((L.length:Int)==1)=false:=by rw[beq_eq_false_iff_ne];omega
  go_enter Tryz.func35,Tryz.ntmps35;go_wp2_with fail;obtain⟨w0,aE⟩:=E9 (w.alloc (Obj.cells (c8 (z8 32)).toArray 23));rw[←aE];have B0:=BA' aE;have R0:=KN' aE;clear aE;have z0:=R0.lt;subst aU;go_loopw [5,6,31] (fun u1 u2 t wr=>∃i:Nat,i≤L.length∧t=.int .i64 (i:Int)∧Fi wr (w.heap.size+1) u1 (Wq false d (L.take i))∧Fi wr (w.heap.size+1) u2 (Wq true d (L.take i))∧A4o u1 u2∧Bk wr w.heap.size 23 (c8 (z8 32))∧Below w.heap.size w wr) (fun _ _ t _=>L.length-(intOf t).toNat)
  case atStart=>exact ⟨0,by omega,rfl,Fi.nil _ _,Fi.nil _ _,(fun g h=>(by cases h)),R0,B0⟩
  case round=>
   clear R0 B0;obtain⟨i,hi,rfl,O1,O2,aK,R,B⟩:=hrel;have z1:=R.lt;by_cases hlt:i<L.length
   ·obtain⟨q,hp⟩:∃p,L[i]?=some p:=⟨_,List.getElem?_eq_getElem hlt⟩;have aC:Gp q:=bA q (List.mem_of_getElem? hp);have bP:=Kv hp;have aL:=B3m false d (L.take i);have aM:=B3m true d (L.take i);have bX:(L.take i).length=i:=by simp;omega
    rw[bX]at aL aM;obtain⟨g,o,c',hs⟩:=aD;rcases hs with ⟨hrow,_,hg,hA,_,_⟩ | hs
    ·injection hA with hA _ hA3;subst hA hA3;have hr:=(hrow i q hp).1;have bY:=(N6 B hg).trans hr;have aB:Hid (L.take (i+1)=L.take i++[q]):=Lib.hid bP;clear hrow hr hp bP;generalize L.take i=m at *;have bZ:=aC.1;have cE:=aC.2;have aN:=aC.len;obtain⟨W,hW⟩:=E9 (C4 (wr.alloc (Obj.cells (c8 (z8 64)).toArray 96)) ⟨wr.heap.size,0,none⟩ (c8 (pb q)));have aO:Below wr.heap.size wr W:=by rw[hW];exact C0 (Bh _ _) (Nat.le_refl _) _
     have cF:W.heap.size=wr.heap.size+1:=by rw[hW];simp
     have Q1:Bk W wr.heap.size 96 (c8 (pb q)):=by rw[hW];exact Bk.fresh wr _ (by simp[aN])
     have P1:=O1.below aO (Nat.le_refl _);have P2:=O2.below aO (Nat.le_refl _);have R1:=R.below aO z1;have B1:=Q5 B aO;clear aO O1 O2 R B;go_wp2_with fail;rw[←hW];clear hW bY;refine (B7o q.1 d bZ bT W).mono ?_;rintro e w2 ⟨rfl,h2⟩;have Q2:=Q1.bl h2;have R2:=R1.bl h2;have S1:=P1.below h2 (Nat.le_refl _);have S2:=P2.below h2 (Nat.le_refl _);have B2:=Q5 B1 h2;have z3:w.heap.size+1≤w2.heap.size:=by have:=h2.size;omega
     have cG:=C9k Q2 aC;clear h2 Q1 R1 P1 P2 B1;obtain⟨o1,cH,rfl,_,_⟩:=S1.form;obtain⟨o2,cI,rfl,_,_⟩:=S2.form;cases hb:M5 q.1 d
     ·have e1:=B3s (m:=m) hb;have e2:=C0t (b:=true) (m:=m) hb;simp only[A3i];go_wp2_with (at_builtin;refine E1q rfl _ _ rfl rfl S1 q aC _ rfl rfl rfl (by omega) z3 ?_;intro A3 c3 w3 bB bC bD aP bE aG);go_roundw;case rel=>exact ⟨i+1,by omega,by go_num,by rw[aB.out,e1];exact bD,by rw[aB.out,e2];exact S2.apart aK bE,S2.newApart aK aG,R2.below aP (by omega),B2.trans (aP.mono (Nat.le_succ _))⟩
      case measure=>simp[intOf];omega
     ·have e1:=C0t (b:=false) (m:=m) hb;have e2:=B3s (m:=m) hb;simp only[A3i];go_wp2_with (at_builtin;refine E1q rfl _ _ rfl rfl S2 q aC _ rfl rfl rfl (by omega) z3 ?_;intro A3 c3 w3 bB bC bD aP bE aG);go_roundw;case rel=>exact ⟨i+1,by omega,by go_num,by rw[aB.out,e1];exact S1.apart aK.symm bE,by rw[aB.out,e2];exact bD,(S1.newApart aK.symm aG).symm,R2.below aP (by omega),B2.trans (aP.mono (Nat.le_succ _))⟩
      case measure=>simp[intOf];omega
    ·subst hs;simp at hlt
   ·obtain rfl:i=L.length:=by omega
    rw[List.take_length]at O1 O2;rw[bN.out]at O1;rw[bO.out]at O2;clear aD bN bO aK;go_wp2_with fail;refine (ihl (d+1) _ _ _ wr (by push_cast;rfl) ok.2.2.1 (by omega) (by omega) (O1.ps.less (Nat.zero_le _))).mono ?_;rintro e w2 ⟨rfl,h2⟩;have P2:=O2.below h2 (Nat.le_refl _);have R2:=R.bl h2;have B2:=Q5 B h2;clear h2 O1 O2 R B;go_wp2_with fail;refine (ihr (d+1) _ _ _ w2 (by push_cast;rfl) ok.2.2.2 (by omega) (by omega) (P2.ps.less (Nat.zero_le _))).mono ?_;rintro e w3 ⟨rfl,h3⟩;have R3:=R2.bl h3;have B3:=Q5 B2 h3;clear h3 P2 R2 B2 z1;have z1:=R3.lt;generalize l.root=rl at *;generalize r.root=rr at *;go_wp2_with fail;obtain⟨w4,aH⟩:=E9 (C4 (C4 ((w3.alloc (Obj.cells (c8 (z8 32)).toArray 23)).alloc (Obj.cells (c8 (z8 32)).toArray 23)) ⟨w3.heap.size,0,none⟩ (c8 rl)) ⟨w3.heap.size+1,0,none⟩ (c8 rr));rw[←aH];have B4:Below w.heap.size w w4:=by rw[aH];have:=B3.size;exact C0 (C0 ((B3.alloc B3.size _).alloc (by simp;omega) _) (by exact B3.size) _) (by simp;omega) _
    have K4:Bk w4 w3.heap.size 23 (c8 rl):=by rw[aH];exact (((Bk.new w3 _ _).alloc _).puts (by simp[aY])).putFar (by simp) _
    have V4:Bk w4 (w3.heap.size+1) 23 (c8 rr):=by rw[aH];have:=(Bk.new (w3.alloc (Obj.cells (c8 (z8 32)).toArray 23)) 23 (c8 (z8 32))).putFar (p:=⟨w3.heap.size,0,none⟩) (by simp) (c8 rl);exact Bk.puts (by simpa using this) (by simp[aZ])
    have R4:Bk w4 w.heap.size 23 (c8 (z8 32)):=by rw[aH];exact (((R3.alloc _).alloc _).putFar (by simp;omega) _).putFar (by simp;omega) _
    have zv:=V4.lt;have aW:w4.heap.size=w3.heap.size+1+1:=by rw[aH];simp
    generalize w3.heap.size=gb at *;clear aH B3 R3;refine Lz (A:=?A2) (fun W=>Below w.heap.size w4 W) [1,2] [0,3,4,5] (by kernel_rfl) (by kernel_rfl) (by kernel_rfl) (by kernel_rfl) rfl rfl (by kernel_rfl) (by kernel_rfl) ?hS (fun W hW=>?h) (fun hS=>?t);case hS=>exact (Below.refl _ _).drew
    case h=>exact Gq
    case t=>
     simp only[pick,Wt];clear aW;refine H9 (by rfl) (fun Q' hQ'=>?_);go_wp2;obtain⟨w5,aS⟩:=E9 ((w4.alloc (Obj.cells #[Value.int IntKind.u8 1] 5)).drew);rw[←aS];have B5:Below w4.heap.size w4 w5:=by rw[aS];exact (Bh _ _).drew
     have y0:By w5 0 w5.heap.size (.slice (some ⟨w4.heap.size,0,none⟩) 1 1) [1]:=by rw[aS];exact (By.build w4 5 (0,0) [1] (by simp)).more (by simp)
     refine hQ' _ _ (B5.mono B4.size) ?_;clear aS hQ' hS;refine H9 (by rfl) (fun Q' hQ'=>?_);go_wp2;obtain⟨w6,aT⟩:=E9 (w5.alloc (Obj.cells #[.slice (some ⟨w4.heap.size,0,none⟩) 1 1,.slice (some ⟨gb,0,none⟩) 32 32,.slice (some ⟨gb+1,0,none⟩) 32 32] 45));rw[←aT];have B6:Below w4.heap.size w4 w6:=by rw[aT];exact B5.alloc B5.size _
     have yk:By w5 0 w5.heap.size (.slice (some ⟨gb,0,none⟩) 32 32) rl:=(K4.below B5 (by omega)).whole 32 aY (by omega);have yv:By w5 0 w5.heap.size (.slice (some ⟨gb+1,0,none⟩) 32 32) rr:=(V4.below B5 (by omega)).whole 32 aZ (by omega);have p6:J7 w6 w6.heap.size (.slice (some ⟨w5.heap.size,0,none⟩) 3 3) [[1],rl,rr]:=by rw[aT];have:=J7.three w5 45 _ _ _ _ _ _ y0 yk yv;simpa using this
     refine hQ' _ _ (B6.mono B4.size) ?_;clear aT hQ' y0 yk yv;refine H9 (by rfl) (fun Q' hQ'=>?_);go_wp2_with fail;refine (Wg _ [[1],rl,rr] w6 p6 (by simp[aY,aZ])).mono ?_;rintro e w7 ⟨rfl,bQ⟩;have B7:=Q5 B6 bQ;have bR:[[1],rl,rr].flatten=[1]++rl++rr:=by simp
     rw[bR];have bF:=Cw ([1]++rl++rr);rw[←aA.out]at bF ⊢;clear bQ p6 bR;have R7:=R4.below B7 (by omega);have aX:=Mh 32 R7 (by simp);generalize hX:(Tr.nd l r).root=rt at *;have HX:=Lib.hid hX;clear hX;go_wp2_with fail;refine hQ' _ _ (B7.mono B4.size) ?_;clear hQ';refine H9 (by rfl) (fun Q' hQ'=>?_);go_wp2_with fail;refine hQ' _ _ (C0 (B7.mono B4.size) (by simp) _) ?_;clear hQ';refine He ?_;go_wp2_with fail;refine bodyPost_ret (C5 rfl _ _ _ _ _ _ rfl (R7.puts (vs:=c8 rt) (by simp[bF])) Tryz.underlying23 rfl (by simp[J9,bF])) rfl ⟨?_,C0 (C2 B4 B7 B4.size) (by simp) _⟩;first | rfl | (rw[HX.out];rfl)
section
def P0:Nat→Bool:=fun _=>false
def Okt (t:Tr):Prop:=Ok 0 P0 t
def A3h (t:Tr) (k v:List UInt8):Tr:=Jt k v 256 0 t
def F8x (l:List Pr) (t:Tr):Tr:=l.foldl (fun t p=>A3h t p.1 p.2) t
section
variable {t : Tr} {k v : List UInt8}
theorem Okt.put (ok:Okt t) (hk:k.length=32) (hv:v.length=32):Okt (A3h t k v):=Rg k v hk hv 256 0 t P0 (by omega) (fun i hi=>by omega) ok
theorem E7o (ok:Okt t) (hk:k.length=32) (x:Pr):x∈(A3h t k v).pairs↔x=(k,v)∨(x∈t.pairs∧x.1≠k):=Hh k v hk 256 0 t P0 (by omega) (fun i hi=>by omega) ok x
theorem C7o (ok:Okt t) (hk:k.length=32):(A3h t k v).len≤t.len+1:=by
 unfold A3h;rw[Da k v hk 256 0 t P0 (by omega) (fun i hi=>by omega) ok];split<;>omega
theorem Okt.nil:Okt .e:=trivial
end
end
section
attribute [local go_sem] Oper.semAt_some
theorem A9i {F:Fence} (hd:F.depth=none) (k:Nat):F.room k:=fun d h=>by rw[hd]at h;cases h
theorem A6l {F:Fence} (hd:F.depth=none) {m m':Nat} {P:Program} {l:Nat} {f:FuncId} {tmps:Array Value} {assign body:Code} {w:World} {R:Ending→World→Prop}
 (h:RoundIn F m P l f tmps assign body w R):RoundIn F m' P l f tmps assign body w R:=⟨h.1,fun c cs _=>h.2 c cs (A9i hd _)⟩
theorem Uq {F:Fence} (hd:F.depth=none) {m:Nat} (m':Nat) {P:Program} {l:Nat} {args:Array Value} {W:World} {R:Ending→World→Prop} (h:YieldAt F m P l args W R):YieldAt F m' P l args W R:=by
 obtain⟨fn,tmps,aA,aB,hy,hR⟩:=h;exact ⟨fn,tmps,aA,aB,hy,A6l hd hR⟩
abbrev PrS := {p : Pr // Gp p}
def C9g (x:PrS):Array Value:=#[A8 x.1.1,A8 x.1.2]
open Classical in
noncomputable def Tr.prs:Tr→List PrS
 | .e=>[]
 | .lf k v=>if h:Gp (k,v) then [⟨(k,v),h⟩] else []
 | .nd l r=>l.prs++r.prs
theorem Tl:∀ {t:Tr} {d:Nat} {P:Nat→Bool},Ok d P t→t.prs.map (·.1)=t.pairs
 | .e,_,_,_=>rfl
 | .lf k v,_,_,ok=>by
  have h:Gp (k,v):=⟨ok.1,ok.2.1⟩;simp[Tr.prs,Tr.pairs,h]
 | .nd l r,_,_,ok=>by simp only[Tr.prs,Tr.pairs,List.map_append,Tl ok.2.2.1,Tl ok.2.2.2]
theorem hdw (k:Nat):Fence.wide.depth.isSome=true→1≤k:=fun h=>by cases h
theorem C8t (p0 dd:Value) (w:World) (n:Nat) :
 CallsIn Fence.wide n Tryz.prog 49 #[.agg #[p0,dd]] w fun e w'=>e=.returned (.func (.func 71) #[] #[.pointer (some ⟨w.heap.size,0,none⟩)])∧w'=w.alloc (.cells #[p0,dd] 31):=by
 refine callsIn_of_wp Tryz.func49 rfl trivial ?_ rfl;simp only[Tryz.ntmps49,List.size_toArray,List.length_cons,List.length_nil,Nat.reduceAdd,Nat.reduceSub,Array.replicate_succ,Array.replicate_zero,List.push_toArray,List.append_toArray,Vb];gi_wp2
 go_ret;exact ⟨rfl,rfl⟩
end
end Go.Proofs.YtlegpkdighoflaaGreat
