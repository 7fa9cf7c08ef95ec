/- A part of the proof of ClientForks. -/
import Derived.Outline
import Derived.Test.YtdfpoofbgjilgaaGreatVav
set_option linter.unusedVariables false
set_option linter.unusedSimpArgs false
set_option maxRecDepth 100000
set_option maxHeartbeats 40000000
namespace Go.Proofs.YtdfpoofbgjilgaaGreat
open Go Go.RowKit Sh
def D0z:Tr→List UInt8 | .lf k _=>k | _=>z8 32
def D1z:Tr→List UInt8 | .lf _ v=>v | _=>z8 32
def B6s:Tr→Bool | .lf _ _=>true | _=>false
def D9c:Tr→Tr | .nd l _=>l | _=>.e
def D8o:Tr→Tr | .nd _ r=>r | _=>.e
def E7o:Tr→Bool | .nd _ _=>true | _=>false
def D1v (d:Nat):Tr→Int | .nd _ _=>(d:Int)+1 | _=>0
theorem A4f (s:Tr) (p:Value) (d:Nat) (P:Nat→Bool) (w:World) (ok:Ok d P s) (h:At w w.heap.size s p) :
 Calls Tryz.prog 147 #[.agg #[p,.int .i64 (d:Int)]] w fun e w'=>e=.returned (.tuple #[A8 (D0z s),A8 (D1z s),.bool (B6s s)])∧Below w.heap.size w w':=by
 cases s with
 | e=>exact B0p .e p d w h (by simp[Tr.len])
 | lf k v=>exact C2a k v p d w h
 | nd l r=>exact B0p (.nd l r) p d w h (by have:=ok.2.1;simp only[Tr.len];omega)
theorem B6i (s:Tr) (p:Value) (d:Nat) (P:Nat→Bool) (w:World) (ok:Ok d P s) (hd:d≤256) (h:At w w.heap.size s p) :
 Calls Tryz.prog 148 #[.agg #[p,.int .i64 (d:Int)]] w fun e w'=>∃pl pr,e=.returned (.tuple #[.agg #[.pointer pl,.int .i64 (D1v d s)],.agg #[.pointer pr,.int .i64 (D1v d s)],.bool (E7o s)])∧At w' w'.heap.size (D9c s) (.pointer pl)∧At w' w'.heap.size (D8o s) (.pointer pr)∧Below w.heap.size w w':=by
 cases s with
 | e=>exact (A3r .e p d w h (by simp[Tr.len])).mono fun e w' ⟨h1,h2⟩=>⟨none,none,h1,rfl,rfl,h2⟩
 | lf k v=>exact (A3r (.lf k v) p d w h (by simp[Tr.len])).mono fun e w' ⟨h1,h2⟩=>⟨none,none,h1,rfl,rfl,h2⟩
 | nd l r=>
  refine (B4f l r p d w h ok.2.1 hd).mono fun e w' ⟨pl,pr,h1,h2,h3,h4⟩=>?_;obtain⟨al,rfl⟩:=h2.form;obtain⟨ar,rfl⟩:=h3.form;exact ⟨al,ar,h1,h2,h3,h4⟩
theorem A0p {m:Array Bool} {i:Nat} (h1:m.getD i true=false) (h2:m.getD i false=true):False:=by
 rcases Nat.lt_or_ge i m.size with h | h
 ·simp[h]at h1 h2;rw[h1]at h2;cases h2
 ·simp[Array.getElem?_eq_none h]at h1
theorem A4m {m:Array Bool} {i:Nat} (h:i<m.size) (j:Nat):(m.setIfInBounds i true).getD j false=(if j=i then true else m.getD j false):=by
 by_cases hj:j=i
 ·subst hj;simp[h]
 ·rw[if_neg hj];simp[Array.getElem?_setIfInBounds_ne (Ne.symm hj)]
def Jw (W0:World) (i j:Bool) (w:World) (s:Value) (r:List UInt8):Prop:=i=true→∃g,s=.pointer (some ⟨g,0,none⟩)∧W0.heap.size≤g∧Bk w g 35 (c8 (if j then r else z8 32))
def Jl (W0:World) (fr:Value→Value→Value→Value→Act) (rl rr:List UInt8) (b1 b3 b4 b5 b6 b7:Bool) (ac:Act) (w:World):Prop:=
 ∃s1 s2 s3 s4,ac=fr s1 s2 s3 s4∧Below W0.heap.size W0 w∧(b1=true→s3=A8 rl)∧(b3=true→s4=A8 rr)∧Jw W0 b4 b6 w s1 rl∧Jw W0 b5 b7 w s2 rr∧(b4=true→b5=true→s1≠s2)∧(b6=true→b4=true)∧(b7=true→b5=true)
theorem Jw.below {W0:World} {i j:Bool} {w w':World} {s:Value} {r:List UInt8} (h:Jw W0 i j w s r) (hb:Below w.heap.size w w'):Jw W0 i j w' s r:=by
 intro hi;obtain⟨g,e,h1,h2⟩:=h hi;exact ⟨g,e,h1,h2.below hb h2.lt⟩
theorem Jl.call1 {W0:World} {fr:Value→Value→Value→Value→Act} {rl rr:List UInt8} {b1 b3 b4 b5 b6 b7:Bool} {s1 s2 s3 s4:Value} {w w':World} (B:Below W0.heap.size W0 w) (F3:b3=true→s4=A8 rr) (F4:Jw W0 b4 b6 w s1 rl) (F5:Jw W0 b5 b7 w s2 rr) (F6:b4=true→b5=true→s1≠s2) (F7:(b6=true→b4=true)∧(b7=true→b5=true)) (hb:Below w.heap.size w w') :
 Jl W0 fr rl rr true b3 b4 b5 b6 b7 (fr s1 s2 (A8 rl) s4) w':=⟨s1,s2,_,s4,rfl,C1 B hb B.size,fun _=>rfl,F3,F4.below hb,F5.below hb,F6,F7⟩
theorem Jl.call3 {W0:World} {fr:Value→Value→Value→Value→Act} {rl rr:List UInt8} {b1 b3 b4 b5 b6 b7:Bool} {s1 s2 s3 s4:Value} {w w':World} (B:Below W0.heap.size W0 w) (F1:b1=true→s3=A8 rl) (F4:Jw W0 b4 b6 w s1 rl) (F5:Jw W0 b5 b7 w s2 rr) (F6:b4=true→b5=true→s1≠s2) (F7:(b6=true→b4=true)∧(b7=true→b5=true)) (hb:Below w.heap.size w w') :
 Jl W0 fr rl rr b1 true b4 b5 b6 b7 (fr s1 s2 s3 (A8 rr)) w':=⟨s1,s2,s3,_,rfl,C1 B hb B.size,F1,fun _=>rfl,F4.below hb,F5.below hb,F6,F7⟩
theorem Jl.alloc4 {W0:World} {fr:Value→Value→Value→Value→Act} {rl rr:List UInt8} {b1 b3 b5 b6 b7:Bool} {s1 s2 s3 s4:Value} {w:World} (B:Below W0.heap.size W0 w) (F1:b1=true→s3=A8 rl) (F3:b3=true→s4=A8 rr) (F5:Jw W0 b5 b7 w s2 rr) (F7:(b6=true→false=true)∧(b7=true→b5=true)) :
 Jl W0 fr rl rr b1 b3 true b5 b6 b7 (fr (.pointer (some ⟨w.heap.size,0,none⟩)) s2 s3 s4) (w.alloc (Obj.cells (c8 (z8 32)).toArray 35)):=by
 have hb:Below w.heap.size w (w.alloc (Obj.cells (c8 (z8 32)).toArray 35)):=(Below.refl _ _).alloc (Nat.le_refl _) _;obtain rfl:b6=false:=by cases b6 with | false=>rfl | true=>exact (F7.1 rfl).symm
 refine ⟨_,s2,s3,s4,rfl,C1 B hb B.size,F1,F3,fun _=>⟨_,rfl,B.size,Bk.new w _ _⟩,F5.below hb,?_,fun _=>rfl,F7.2⟩;intro _ h5 e;obtain⟨g,e2,_,K⟩:=F5 h5;rw[e2]at e;injection e with e;injection e with e;injection e with e;have:=K.lt;omega
theorem Jl.alloc5 {W0:World} {fr:Value→Value→Value→Value→Act} {rl rr:List UInt8} {b1 b3 b4 b6 b7:Bool} {s1 s2 s3 s4:Value} {w:World} (B:Below W0.heap.size W0 w) (F1:b1=true→s3=A8 rl) (F3:b3=true→s4=A8 rr) (F4:Jw W0 b4 b6 w s1 rl) (F7:(b6=true→b4=true)∧(b7=true→false=true)) :
 Jl W0 fr rl rr b1 b3 b4 true b6 b7 (fr s1 (.pointer (some ⟨w.heap.size,0,none⟩)) s3 s4) (w.alloc (Obj.cells (c8 (z8 32)).toArray 35)):=by
 have hb:Below w.heap.size w (w.alloc (Obj.cells (c8 (z8 32)).toArray 35)):=(Below.refl _ _).alloc (Nat.le_refl _) _;obtain rfl:b7=false:=by cases b7 with | false=>rfl | true=>exact (F7.2 rfl).symm
 refine ⟨s1,_,s3,s4,rfl,C1 B hb B.size,F1,F3,F4.below hb,fun _=>⟨_,rfl,B.size,Bk.new w _ _⟩,?_,F7.1,fun _=>rfl⟩;intro h4 _ e;obtain⟨g,e2,_,K⟩:=F4 h4;rw[e2]at e;injection e with e;injection e with e;injection e with e;have:=K.lt;omega
theorem Jl.store6 {W0:World} {fr:Value→Value→Value→Value→Act} {rl rr:List UInt8} {b1 b3 b5 b6 b7:Bool} {g:Nat} {s2 s3 s4:Value} {w:World} {x:List UInt8} (B:Below W0.heap.size W0 w) (hg:W0.heap.size≤g) (K:Bk w g 35 (c8 x)) (hx:x.length=rl.length) (F1:b1=true→s3=A8 rl) (F3:b3=true→s4=A8 rr) (F5:Jw W0 b5 b7 w s2 rr) (F6:b5=true→.pointer (some ⟨g,0,none⟩)≠s2) (F7:b7=true→b5=true) :
 Jl W0 fr rl rr b1 b3 true b5 true b7 (fr (.pointer (some ⟨g,0,none⟩)) s2 s3 s4) (C4 w ⟨g,0,none⟩ (c8 rl)):=by
 refine ⟨_,s2,s3,s4,rfl,C0 B hg _,F1,F3,fun _=>⟨_,rfl,hg,K.puts (by simp[hx])⟩,?_,fun _ h5=>F6 h5,fun _=>rfl,F7⟩;intro h5;obtain⟨g2,e2,h2,K2⟩:=F5 h5;refine ⟨g2,e2,h2,K2.putFar ?_ _⟩;intro e;exact F6 h5 (by rw[e2];simp at e;simp[e])
theorem Jl.store7 {W0:World} {fr:Value→Value→Value→Value→Act} {rl rr:List UInt8} {b1 b3 b4 b6 b7:Bool} {g:Nat} {s1 s3 s4:Value} {w:World} {x:List UInt8} (B:Below W0.heap.size W0 w) (hg:W0.heap.size≤g) (K:Bk w g 35 (c8 x)) (hx:x.length=rr.length) (F1:b1=true→s3=A8 rl) (F3:b3=true→s4=A8 rr) (F4:Jw W0 b4 b6 w s1 rl) (F6:b4=true→s1≠.pointer (some ⟨g,0,none⟩)) (F7:b6=true→b4=true) :
 Jl W0 fr rl rr b1 b3 b4 true b6 true (fr s1 (.pointer (some ⟨g,0,none⟩)) s3 s4) (C4 w ⟨g,0,none⟩ (c8 rr)):=by
 refine ⟨s1,_,s3,s4,rfl,C0 B hg _,F1,F3,?_,fun _=>⟨_,rfl,hg,K.puts (by simp[hx])⟩,fun h4 _=>F6 h4,F7,fun _=>rfl⟩;intro h4;obtain⟨g2,e2,h2,K2⟩:=F4 h4;refine ⟨g2,e2,h2,K2.putFar ?_ _⟩;intro e;exact F6 h4 (by rw[e2];simp at e;simp[e])
section
theorem C5r:(Tryz.prog.info? 237).map (·.size)=some 64:=by kernel_rfl
theorem D1k:((Tryz.prog.info? 237).bind (·.zero))=some (A8 (z8 64)):=by kernel_rfl
theorem A9g:Tryz.prog.underlying 237=some (.struct (I2 Tryz.prog 237)):=by kernel_rfl
theorem D1y (w:World):(Z3 (I2 Tryz.prog 237)).run Tryz.prog w=.ok #[(0,32),(32,32)] w:=by kernel_rfl
theorem D0t:(Tryz.prog.info? 233).map (·.size)=some 32:=by kernel_rfl
theorem C6p:((Tryz.prog.info? 233).bind (·.zero))=some (A8 (z8 32)):=by kernel_rfl
theorem B1p:Tryz.prog.underlying 233=some (.struct (I2 Tryz.prog 233)):=by kernel_rfl
theorem C9k (w:World):(Z3 (I2 Tryz.prog 233)).run Tryz.prog w=.ok #[(0,32)] w:=by kernel_rfl
section
variable (w : World) (ρ : Operand → Value) (dst : Option Tmp) (ty : TypeId) (pos : String) (after : Array Edge) (guard : Option (Nat × Bool))
@[go_sem ↓ high] theorem E3p:RL' 237 64:=LL' A9g C5r
@[go_sem ↓ high] theorem D9y:RS' 237 64:=SS' C5r
@[go_sem ↓ high] theorem E1w:RA' 237 (c8 (z8 64)).toArray:=fun w ρ dst ty pos after guard=>I7 w ρ dst ty pos after guard 237 (A8 (z8 64)) D1k
@[go_sem ↓ high] theorem E5f:RB' 237:=BX' _
@[go_sem ↓ high] theorem D7n:RL' 233 32:=LL' B1p D0t
@[go_sem ↓ high] theorem D5n:RS' 233 32:=SS' D0t
@[go_sem ↓ high] theorem D3u:RA' 233 (c8 (z8 32)).toArray:=fun w ρ dst ty pos after guard=>I7 w ρ dst ty pos after guard 233 (A8 (z8 32)) C6p
@[go_sem ↓ high] theorem E0r:RB' 233:=BX' _
end
theorem C6y (k v:List UInt8) (hk:k.length=32) (hv:v.length=32) (w:World):(Instr.build 237 #[(0,A8 k),(1,A8 v)]).run Tryz.prog w=.ok (A8 (pb (k,v))) w:=by
 have hz:(A8 (z8 64)).cells.toList=c8 (z8 64):=rfl;have hl:(c8 (z8 64)).length=64:=by simp
 have h1:=I3 A9g D1k w (D1y w) #[(0,A8 k),(1,A8 v)] [(0,c8 k),(32,c8 v)] (by
  rw[hz,hl];exact ⟨by simp[hk],rfl,by simp[hk],by simp[hv],rfl,by simp[hv],trivial⟩)
 refine h1.trans (congrArg (fun (cs:List Value)=>Result.ok (Value.agg cs.toArray) w) ?_);rw[hz];simp[Bg,N9,hk,hv,List.take_append,List.drop_append,List.drop_eq_nil_of_le,List.take_of_length_le,pb,c8]
@[go_sem ↓ high] theorem E2o (w : World) (ρ : Operand → Value) (dst : Option Tmp) (ty : TypeId) (pos : String) (after : Array Edge) (guard : Option (Nat × Bool)) (x y : Operand) :
 (execOp ρ { dst,op:=.build 237 #[(0,x),(1,y)],type:=ty,pos,after,guard }).run Tryz.prog w=Uv w (F2 Tryz.prog ρ { dst,op:=.build 237 #[(0,x),(1,y)],type:=ty,pos,after,guard } w) (ρ x) (ρ y):=by
 generalize hx:ρ x=a;generalize hy:ρ y=b;unfold Uv;split
 ·rename_i k v h1 h2
  replace h1:=J4 h1;replace h2:=J4 h2;split
  ·rename_i h
   refine E9 w ρ dst ty pos after guard _ _ _ ?_;simp only[List.map_toArray,List.map_cons,List.map_nil,hx,hy,h1,h2];exact C6y k v h.1 h.2 w
  ·rfl
 ·rfl
noncomputable def B8y (w:World) (raw:Result Next) (k:Value):Result Next:=
 match T5 k with
 | some k=>if k.length=32 then .ok (.value (A8 k)) w else raw
 | _=>raw
@[go_sem] theorem E6g (w : World) (raw : Result Next) (k : List UInt8) (hk : k.length = 32) : B8y w raw (A8 k) = .ok (.value (A8 k)) w := by
 unfold B8y;rw[U5];simp[hk]
theorem B7b (k:List UInt8) (hk:k.length=32) (w:World):(Instr.build 233 #[(0,A8 k)]).run Tryz.prog w=.ok (A8 k) w:=by
 have hz:(A8 (z8 32)).cells.toList=c8 (z8 32):=rfl;have hl:(c8 (z8 32)).length=32:=by simp
 have h1:=I3 B1p C6p w (C9k w) #[(0,A8 k)] [(0,c8 k)] (by
  rw[hz,hl];exact ⟨by simp[hk],rfl,by simp[hk],trivial⟩)
 refine h1.trans (congrArg (fun (cs:List Value)=>Result.ok (Value.agg cs.toArray) w) ?_);rw[hz];simp[Bg,N9,hk,List.take_append,List.drop_append,List.drop_eq_nil_of_le,List.take_of_length_le,c8]
@[go_sem ↓ high] theorem D5t (w : World) (ρ : Operand → Value) (dst : Option Tmp) (ty : TypeId) (pos : String) (after : Array Edge) (guard : Option (Nat × Bool)) (x : Operand) :
 (execOp ρ { dst,op:=.build 233 #[(0,x)],type:=ty,pos,after,guard }).run Tryz.prog w=B8y w (F2 Tryz.prog ρ { dst,op:=.build 233 #[(0,x)],type:=ty,pos,after,guard } w) (ρ x):=by
 generalize hx:ρ x=a;unfold B8y;split
 ·rename_i k h1
  replace h1:=J4 h1;split
  ·rename_i h
   refine E9 w ρ dst ty pos after guard _ _ _ ?_;simp only[List.map_toArray,List.map_cons,List.map_nil,hx,h1];exact B7b k h w
  ·rfl
 ·rfl
inductive Pt | e | lf (k v : List UInt8) | nd (l r : Pt) | hd (h : List UInt8)
def Pt.val:Pt→Value
 | .e=>.nilIface
 | .lf k v=>.iface 237 (A8 (pb (k,v)))
 | .nd l r=>.iface 244 (.agg #[l.val,r.val])
 | .hd h=>.iface 233 (A8 h)
theorem Pt.one:∀p:Pt,p.val.oneCell'=true
 | .e=>rfl
 | .lf _ _=>rfl
 | .nd _ _=>rfl
 | .hd _=>rfl
@[go_sem ↓ high] theorem Pt.cells_val : ∀ p : Pt, p.val.cells = #[p.val]
 | .e=>rfl
 | .lf _ _=>rfl
 | .nd _ _=>rfl
 | .hd _=>rfl
@[go_sem] theorem D3d {P : Program} {w : World} {a : Addr} {m : Mode} (p : Pt) : (store a p.val m).run P w = stored P w a p.val m := run_store P w a _ m p.one
def Pt.root:Pt→List UInt8
 | .e=>z8 32
 | .lf k v=>Ih ([0]++k++v)
 | .nd l r=>Ih ([1]++l.root++r.root)
 | .hd h=>h
def Pt.Wf:Pt→Prop
 | .e=>True
 | .lf k v=>k.length=32∧v.length=32
 | .nd l r=>l.Wf∧r.Wf
 | .hd h=>h.length=32
theorem Pt.root_length:∀ {p:Pt},p.Wf→p.root.length=32
 | .e,_=>by simp[Pt.root]
 | .lf k v,_=>by simp[Pt.root,Cd]
 | .nd l r,_=>by simp[Pt.root,Cd]
 | .hd h,hw=>hw
@[go_sem] theorem E8t (n : Nat) (v : Value) (w : World) : (nilAhead (n + 1) 237 v "witan/witness.root").run Tryz.prog w = .ok (some false) w := by kernel_rfl
@[go_sem] theorem E4k (n : Nat) (v : Value) (w : World) : (method (n + 1) 237 v "witan/witness.root").run Tryz.prog w = .ok (235, v) w := by kernel_rfl
@[go_sem] theorem D9s (n : Nat) (v : Value) (w : World) : (nilAhead (n + 1) 233 v "witan/witness.root").run Tryz.prog w = .ok (some false) w := by kernel_rfl
@[go_sem] theorem D7j (n : Nat) (v : Value) (w : World) : (method (n + 1) 233 v "witan/witness.root").run Tryz.prog w = .ok (234, v) w := by kernel_rfl
@[go_sem] theorem E3x (n : Nat) (v : Value) (w : World) : (nilAhead (n + 1) 244 v "witan/witness.root").run Tryz.prog w = .ok (some false) w := by kernel_rfl
@[go_sem] theorem E2j (n : Nat) (v : Value) (w : World) : (method (n + 1) 244 v "witan/witness.root").run Tryz.prog w = .ok (236, v) w := by kernel_rfl
@[go_sem] theorem A6q (v : Value) (w : World) : (Instr.typeAssert (.iface 237 v) 120 237 true).run Tryz.prog w = .ok (.tuple #[v, .bool true]) w := by kernel_rfl
@[go_sem] theorem A3b (v : Value) (w : World) : (Instr.typeAssert (.iface 244 v) 120 237 true).run Tryz.prog w = .ok (.tuple #[A8 (z8 64), .bool false]) w := by kernel_rfl
@[go_sem] theorem Zk (v : Value) (w : World) : (Instr.typeAssert (.iface 233 v) 120 237 true).run Tryz.prog w = .ok (.tuple #[A8 (z8 64), .bool false]) w := by kernel_rfl
@[go_sem] theorem B2c (w : World) : (Instr.typeAssert .nilIface 120 237 true).run Tryz.prog w = .ok (.tuple #[A8 (z8 64), .bool false]) w := by kernel_rfl
@[go_sem] theorem D2m (v : Value) (w : World) : (Instr.typeAssert (.iface 237 v) 120 244 true).run Tryz.prog w = .ok (.tuple #[.agg #[.nilIface, .nilIface], .bool false]) w := by kernel_rfl
@[go_sem] theorem C9g (v : Value) (w : World) : (Instr.typeAssert (.iface 244 v) 120 244 true).run Tryz.prog w = .ok (.tuple #[v, .bool true]) w := by kernel_rfl
@[go_sem] theorem C5a (v : Value) (w : World) : (Instr.typeAssert (.iface 233 v) 120 244 true).run Tryz.prog w = .ok (.tuple #[.agg #[.nilIface, .nilIface], .bool false]) w := by kernel_rfl
@[go_sem] theorem D4g (w : World) : (Instr.typeAssert .nilIface 120 244 true).run Tryz.prog w = .ok (.tuple #[.agg #[.nilIface, .nilIface], .bool false]) w := by kernel_rfl
@[go_sem] theorem D1j (v : Value) (w : World) : (Instr.typeAssert (.iface 237 v) 120 233 true).run Tryz.prog w = .ok (.tuple #[A8 (z8 32), .bool false]) w := by kernel_rfl
@[go_sem] theorem C5c (v : Value) (w : World) : (Instr.typeAssert (.iface 244 v) 120 233 true).run Tryz.prog w = .ok (.tuple #[A8 (z8 32), .bool false]) w := by kernel_rfl
@[go_sem] theorem C4j (v : Value) (w : World) : (Instr.typeAssert (.iface 233 v) 120 233 true).run Tryz.prog w = .ok (.tuple #[v, .bool true]) w := by kernel_rfl
@[go_sem] theorem D2t (w : World) : (Instr.typeAssert .nilIface 120 233 true).run Tryz.prog w = .ok (.tuple #[A8 (z8 32), .bool false]) w := by kernel_rfl
def E8s (qs:List Nat) (i1 i2 i3 i4 i5 i6:Nat) (W0:World) (fr:Value→Value→Value→Value→Act) (rl rr:List UInt8) (listed:Array Bool) (ac:Act) (w:World):Prop:=
 (∀j∈qs,listed.getD j false=true)∧Jl W0 fr rl rr (listed.getD i1 false) (listed.getD i2 false) (listed.getD i3 false) (listed.getD i4 false) (listed.getD i5 false) (listed.getD i6 false) ac w
theorem Gn {qs:List Nat} {i1 i2 i3 i4 i5 i6:Nat} {W0:World} {fr:Value→Value→Value→Value→Act} {rl rr:List UInt8} {listed:Array Bool} {i:Nat} {ac:Act} {w:World} (hi:i<listed.size) (hq:∀j∈qs,listed.getD j false=true)
 (h:Jl W0 fr rl rr (if i1=i then true else listed.getD i1 false) (if i2=i then true else listed.getD i2 false) (if i3=i then true else listed.getD i3 false) (if i4=i then true else listed.getD i4 false) (if i5=i then true else listed.getD i5 false) (if i6=i then true else listed.getD i6 false) ac w):E8s qs i1 i2 i3 i4 i5 i6 W0 fr rl rr (listed.setIfInBounds i true) ac w:=by
 refine ⟨fun j hj=>?_,?_⟩
 ·rw[A4m hi];split
  ·rfl
  ·exact hq j hj
 ·simp only[A4m hi];exact h
theorem B2z (h:List UInt8) (hh:h.length=32) (w:World):Calls Tryz.prog 234 #[A8 h] w fun e w'=>e=.returned (A8 (Pt.hd h).root)∧Below w.heap.size w w':=by
 obtain⟨w0,aA⟩:∃x,x=(w.alloc (Obj.cells (c8 h).toArray 233)).alloc (Obj.cells (c8 (z8 32)).toArray 35):=⟨_,rfl⟩;have B0:Below w.heap.size w w0:=by rw[aA];exact ((Below.refl _ _).alloc (Nat.le_refl _) _).alloc (by simp) _
 have R0:Bk w0 (w.heap.size+1) 35 (c8 (z8 32)):=by rw[aA];simpa using Bk.new (w.alloc (Obj.cells (c8 h).toArray 233)) 35 (c8 (z8 32))
 go_enter Tryz.func234,Tryz.ntmps234;go_wp2_with fail;rw[←aA];exact bodyPost_ret (C7 rfl _ _ _ _ _ _ rfl (R0.puts (vs:=c8 h) (by simp[hh])) Tryz.underlying35 rfl (by simp[I8,hh])) rfl ⟨rfl,C0 B0 (by simp) _⟩
theorem C2f (k v:List UInt8) (hk:k.length=32) (hv:v.length=32) (w:World):Calls Tryz.prog 235 #[A8 (pb (k,v))] w fun e w'=>e=.returned (A8 (Pt.lf k v).root)∧Below w.heap.size w w':=by
 have hl:(pb (k,v)).length=64:=Kw.len ⟨hk,hv⟩;have aA:Ih [[0],k,v].flatten=(Pt.lf k v).root:=by simp[Pt.root]
 have aB:=Lib.hid aA;have aG:=Pt.root_length (p:=.lf k v) ⟨hk,hv⟩;generalize (Pt.lf k v).root=rt at *;clear aA;go_enter Tryz.func235,Tryz.ntmps235;go_wp2_with fail;obtain⟨W0,aC⟩:∃x,x=(w.alloc (Obj.cells (c8 (pb (k,v))).toArray 237)).alloc (Obj.cells (c8 (z8 32)).toArray 35):=⟨_,rfl⟩;rw[←aC];have aH:Bk W0 w.heap.size 237 (c8 (pb (k,v))):=by rw[aC];exact (Bk.new w _ _).alloc _
 have aF:Bk W0 (w.heap.size+1) 35 (c8 (z8 32)):=by rw[aC];simpa using Bk.new (w.alloc (Obj.cells (c8 (pb (k,v))).toArray 237)) 35 (c8 (z8 32))
 have B0:Below w.heap.size w W0:=by rw[aC];exact ((Below.refl _ _).alloc (Nat.le_refl _) _).alloc (by simp) _
 clear aC;have S0:Below W0.heap.size W0 W0.drew:=(Below.refl _ _).drew;have z0:w.heap.size+1≤W0.heap.size:=by have:=aF.lt;omega
 refine E3 (fun W=>Below (w.heap.size+1) W0 W) (by kernel_rfl) ?_;refine C5 (A:=?A1) [1,2,3,4] (by kernel_rfl) (by kernel_rfl) rfl (by kernel_rfl) (by kernel_rfl) (S0.mono z0) (h:=fun W hW=>?h1) (hr:=?r1);case h1=>
  simp only[pick,List.getElem?_cons_zero,List.getElem?_cons_succ];repeat (go_big_quiet_step (fail))
  refine wpQuiet_nil ?_;rfl
 case r1=>
  refine C3 0 (by kernel_rfl) (by rfl) (by rfl) (fun Q' hQ'=>?_);dsimp only[E5];go_wp2_with fail;obtain⟨W1,aD⟩:∃x,x=(W0.alloc (Obj.cells #[.int .u8 0] 5)).drew:=⟨_,rfl⟩;rw[←aD];have S1:Below W0.heap.size W0 W1:=by rw[aD];exact ((Below.refl _ _).alloc (Nat.le_refl _) _).drew
  have y0:By W1 0 W1.heap.size (.slice (some ⟨W0.heap.size,0,none⟩) 1 1) [0]:=by rw[aD];exact (By.build W0 5 (0,0) [0] (by simp)).more (by simp)
  refine hQ' _ _ (S1.mono z0) ?_;clear hQ' aD;refine C3 5 (by kernel_rfl) (by rfl) (by rfl) (fun Q' hQ'=>?_);dsimp only[E5];go_wp2_with fail;obtain⟨W2,aE⟩:∃x,x=W1.alloc (Obj.cells #[.slice (some ⟨W0.heap.size,0,none⟩) 1 1,.slice (some ⟨w.heap.size,0,none⟩) 32 32,.slice (some ⟨w.heap.size,32,none⟩) 32 32] 29):=⟨_,rfl⟩;rw[←aE];have P1:=aH.below S1 aH.lt;have yk:By W1 0 W1.heap.size (.slice (some ⟨w.heap.size,0,none⟩) 32 32) k:=By.of_row (Mm P1 ⟨hk,hv⟩) P1.lt (by omega);have yv:By W1 0 W1.heap.size (.slice (some ⟨w.heap.size,32,none⟩) 32 32) v:=By.of_row (Sz P1 ⟨hk,hv⟩) P1.lt (by omega);have p2:J9 W2 W2.heap.size (.slice (some ⟨W1.heap.size,0,none⟩) 3 3) [[0],k,v]:=by
   rw[aE];have:=J9.three W1 29 _ _ _ _ _ _ y0 yk yv;simpa using this
  have S2:Below W0.heap.size W0 W2:=by rw[aE];exact S1.alloc S1.size _
  refine hQ' _ _ (S2.mono z0) ?_;clear hQ' aE;refine C3 6 (by kernel_rfl) (by rfl) (by rfl) (fun Q' hQ'=>?_);dsimp only[E5];go_wp2_with fail;refine (Hf _ [[0],k,v] W2 p2 (by simp[hk,hv])).mono ?_;rintro e W3 ⟨rfl,h3⟩;rw[aB.out];have S3:=C1 S2 h3 S2.size;go_wp2_with fail;refine hQ' _ _ (S3.mono z0) ?_;clear hQ';have R3:=aF.below S3 aF.lt;have aI:E7 W3 ⟨w.heap.size+1,0,none⟩ 32=true:=R3.can (by simp);refine C3 7 (by kernel_rfl) (by rfl) (by rfl) (fun Q' hQ'=>?_);dsimp only[E5];go_wp2_with fail;refine hQ' _ _ (C0 (S3.mono z0) (by simp) _) ?_;clear hQ';refine F0 (by kernel_rfl) ?_;go_wp2_with fail;exact bodyPost_ret (C7 rfl _ _ _ _ _ _ rfl (R3.puts (vs:=c8 rt) (by simp[aG])) Tryz.underlying35 rfl (by simp[I8,aG])) rfl ⟨rfl,C0 (C1 B0 S3 B0.size) (by simp) _⟩
theorem B6j (l r:Pt) (hl:l.Wf) (hr:r.Wf) (IHl:∀w,Calls Tryz.prog 99 #[l.val] w fun e w'=>e=.returned (A8 l.root)∧Below w.heap.size w w') (IHr:∀w,Calls Tryz.prog 99 #[r.val] w fun e w'=>e=.returned (A8 r.root)∧Below w.heap.size w w') (w:World) :
 Calls Tryz.prog 236 #[.agg #[l.val,r.val]] w fun e w'=>e=.returned (A8 (Pt.nd l r).root)∧Below w.heap.size w w':=by
 have aE:Ih [[1],l.root,r.root].flatten=(Pt.nd l r).root:=by simp[Pt.root]
 have aH:=Lib.hid aE;have aR:=Pt.root_length (p:=.nd l r) ⟨hl,hr⟩;have aO:=Pt.root_length hl;have aP:=Pt.root_length hr;generalize (Pt.nd l r).root=rt at *;generalize l.root=rl at *;generalize r.root=rr at *;clear aE;go_enter Tryz.func236,Tryz.ntmps236;go_wp2_with fail;obtain⟨W0,aI⟩:∃x,x=(w.alloc (Obj.cells #[l.val,r.val] 244)).alloc (Obj.cells (c8 (z8 32)).toArray 35):=⟨_,rfl⟩;rw[←aI];have aQ:Bk W0 w.heap.size 244 [l.val,r.val]:=by rw[aI];exact (Bk.new w _ [l.val,r.val]).alloc _
 have aS:Bk W0 (w.heap.size+1) 35 (c8 (z8 32)):=by rw[aI];simpa using Bk.new (w.alloc (Obj.cells #[l.val,r.val] 244)) 35 (c8 (z8 32))
 have B0:Below w.heap.size w W0:=by rw[aI];exact ((Below.refl _ _).alloc (Nat.le_refl _) _).alloc (by simp) _
 clear aI;generalize l.val=vl at *;generalize r.val=vr at *;have S0:Below W0.heap.size W0 W0.drew:=(Below.refl _ _).drew;refine E3 (fun W=>Below W0.heap.size W0 W) (by kernel_rfl) ?_;refine C5 (A:=?A1) [0,1,3,4] (by kernel_rfl) (by kernel_rfl) rfl (by kernel_rfl) (by kernel_rfl) S0 (h:=fun W hW=>?h1) (hr:=?r1);case h1=>
  have P1:=aQ.below hW aQ.lt;have c0:W.cell? ⟨w.heap.size,0,none⟩=some vl:=P1.at_ rfl;have c1:W.cell? ⟨w.heap.size,1,none⟩=some vr:=P1.at_ rfl;simp only[pick,List.getElem?_cons_zero,List.getElem?_cons_succ];repeat (go_big_quiet_step (fail))
  refine wpQuiet_nil ?_;rfl
 case r1=>
  refine A9l (E8s [0,1,3,4] 2 5 6 7 8 9 W0 (fun s3 s4 s7 aK=>⟨(.agg #[vl,vr] :: .pointer (some ⟨w.heap.size,0,none⟩) :: .pointer (some ⟨w.heap.size+1,0,none⟩)::s3::s4 :: .pointer (some ⟨w.heap.size,0,none⟩)::vl::s7 :: .pointer (some ⟨w.heap.size,1,none⟩)::vr::aK::undef::undef::undef::undef::undef::[]).toArray,[]⟩) rl rr) (by kernel_rfl) (fun _ _ _ h=>by obtain⟨_,_,_,_,_,_,h,_⟩:=h;exact h) ?aF ?aJ (by kernel_rfl) ?aG;case aG=>exact ⟨by decide,_,_,_,_,rfl,S0,fun h=>absurd h (by decide),fun h=>absurd h (by decide),fun h=>absurd h (by decide),fun h=>absurd h (by decide),fun h=>absurd h (by decide),fun h=>absurd h (by decide),fun h=>absurd h (by decide)⟩
  case aF=>
   intro aA ac w i o hI aT hi aU aL K hK;obtain⟨aC,s3,s4,s7,aK,rfl,B,F1,F3,F4,F5,F6,F7⟩:=hI;have aZ:i<10:=by simpa using (List.getElem?_eq_some_iff.1 hi).1
   have aT:aA.size=10:=by simpa using aT
   have aX:i=2∨i=5∨i=6∨i=7∨i=8∨i=9:=by apply Classical.byContradiction;intro hn;exact A0p aU (aC i (by simp;omega))
   have aD:aA.getD i false=false:=by
    cases h:aA.getD i false with
    | false=>rfl
    | true=>exact (A0p aU h).elim
   rcases aX with rfl | rfl | rfl | rfl | rfl | rfl
   ·cases hi;refine Vu (by rfl) rfl (fun Q' hQ'=>?_);go_wp2_with fail;refine (IHl w).mono ?_;rintro e w' ⟨rfl,hb⟩;go_wp2_with fail;refine Gn (by omega) aC ?_;exact Jl.call1 (s3:=s7) (b1:=false) B F3 F4 F5 F6 F7 hb
   ·cases hi;refine Vu (by rfl) rfl (fun Q' hQ'=>?_);go_wp2_with fail;refine (IHr w).mono ?_;rintro e w' ⟨rfl,hb⟩;go_wp2_with fail;refine Gn (by omega) aC ?_;exact Jl.call3 (s4:=aK) (b3:=false) B F1 F4 F5 F6 F7 hb
   ·cases hi;refine Vu (by rfl) rfl (fun Q' hQ'=>?_);go_wp2_with fail;refine Gn (by omega) aC ?_;rw[aD]at F7;exact Jl.alloc4 (s1:=s3) B F1 F3 F5 F7
   ·cases hi;refine Vu (by rfl) rfl (fun Q' hQ'=>?_);go_wp2_with fail;refine Gn (by omega) aC ?_;rw[aD]at F7;exact Jl.alloc5 (s2:=s4) B F1 F3 F4 F7
   ·cases hi;have b1:=aL ⟨2,.data⟩ (by simp) rfl;have b4:=aL ⟨6,.data⟩ (by simp) rfl;obtain⟨ga,rfl,aV,Ka⟩:=F4 b4;obtain rfl:=F1 b1;rw[aD]at Ka;simp only[Bool.false_eq_true,if_false]at Ka;have bA:E7 w ⟨ga,0,none⟩ 32=true:=Ka.can (by simp);refine Vu (by rfl) rfl (fun Q' hQ'=>?_);go_wp2_with fail;refine Gn (by omega) aC ?_;rw[b4]at F6 ⊢;exact Jl.store6 (x:=z8 32) (b6:=false) B aV Ka (by simp[aO]) (fun _=>rfl) F3 F5 (F6 rfl) F7.2
   ·cases hi;have b3:=aL ⟨5,.data⟩ (by simp) rfl;have b5:=aL ⟨7,.data⟩ (by simp) rfl;obtain⟨gb,rfl,aW,Kb⟩:=F5 b5;obtain rfl:=F3 b3;rw[aD]at Kb;simp only[Bool.false_eq_true,if_false]at Kb;have bB:E7 w ⟨gb,0,none⟩ 32=true:=Kb.can (by simp);refine Vu (by rfl) rfl (fun Q' hQ'=>?_);go_wp2_with fail;refine Gn (by omega) aC ?_;rw[b5]at F6 ⊢;exact Jl.store7 (x:=z8 32) (b7:=false) B aW Kb (by simp[aP]) F1 (fun _=>rfl) F4 (fun h=>F6 h rfl) F7.1
  case aJ=>
   intro aA ac W hI aB;obtain⟨aC,s3,s4,s7,aK,rfl,B,F1,F3,F4,F5,F6,F7⟩:=hI;obtain⟨ga,rfl,aV,Ka⟩:=F4 (aB 6 (by simp));obtain⟨gb,rfl,aW,Kb⟩:=F5 (aB 7 (by simp));rw[aB 8 (by simp)]at Ka;rw[aB 9 (by simp)]at Kb;obtain rfl:=F1 (aB 2 (by simp));obtain rfl:=F3 (aB 5 (by simp));simp only[if_true]at Ka Kb;have R6:=aS.below B aS.lt;have B6:=C1 B0 B B0.size;have bC:=Ka.lt;have bD:=Kb.lt;clear F1 F3 F4 F5 F6 F7 aC aB S0 aQ;go_wp2_with fail;have T0:Below W.heap.size W W.drew:=(Below.refl _ _).drew;have z0:w.heap.size+1≤W.heap.size:=by have:=R6.lt;omega
   refine E3 (fun V=>Below (w.heap.size+1) W V) (by kernel_rfl) ?_;refine C5 (A:=?A2) [1,2] (by kernel_rfl) (by kernel_rfl) rfl (by kernel_rfl) (by kernel_rfl) (T0.mono z0) (h:=fun V hV=>?h2) (hr:=?r2);case h2=>
    simp only[pick,List.getElem?_cons_zero,List.getElem?_cons_succ];repeat (go_big_quiet_step (fail))
    refine wpQuiet_nil ?_;rfl
   case r2=>
    refine C3 0 (by kernel_rfl) (by rfl) (by rfl) (fun Q' hQ'=>?_);dsimp only[E5];go_wp2_with fail;obtain⟨W1,aM⟩:∃x,x=(W.alloc (Obj.cells #[.int .u8 1] 5)).drew:=⟨_,rfl⟩;rw[←aM];have S1:Below W.heap.size W W1:=by rw[aM];exact ((Below.refl _ _).alloc (Nat.le_refl _) _).drew
    have y0:By W1 0 W1.heap.size (.slice (some ⟨W.heap.size,0,none⟩) 1 1) [1]:=by rw[aM];exact (By.build W 5 (0,0) [1] (by simp)).more (by simp)
    refine hQ' _ _ (S1.mono z0) ?_;clear hQ' aM;refine C3 3 (by kernel_rfl) (by rfl) (by rfl) (fun Q' hQ'=>?_);dsimp only[E5];go_wp2_with fail;obtain⟨W2,aN⟩:∃x,x=W1.alloc (Obj.cells #[.slice (some ⟨W.heap.size,0,none⟩) 1 1,.slice (some ⟨ga,0,none⟩) 32 32,.slice (some ⟨gb,0,none⟩) 32 32] 29):=⟨_,rfl⟩;rw[←aN];have yk:By W1 0 W1.heap.size (.slice (some ⟨ga,0,none⟩) 32 32) rl:=(Ka.below S1 Ka.lt).whole 32 aO (by have:=S1.size;omega);have yv:By W1 0 W1.heap.size (.slice (some ⟨gb,0,none⟩) 32 32) rr:=(Kb.below S1 Kb.lt).whole 32 aP (by have:=S1.size;omega);have p2:J9 W2 W2.heap.size (.slice (some ⟨W1.heap.size,0,none⟩) 3 3) [[1],rl,rr]:=by
     rw[aN];have:=J9.three W1 29 _ _ _ _ _ _ y0 yk yv;simpa using this
    have S2:Below W.heap.size W W2:=by rw[aN];exact S1.alloc S1.size _
    refine hQ' _ _ (S2.mono z0) ?_;clear hQ' aN;refine C3 4 (by kernel_rfl) (by rfl) (by rfl) (fun Q' hQ'=>?_);dsimp only[E5];go_wp2_with fail;refine (Hf _ [[1],rl,rr] W2 p2 (by simp[aO,aP])).mono ?_;rintro e W3 ⟨rfl,h3⟩;rw[aH.out];have S3:=C1 S2 h3 S2.size;go_wp2_with fail;refine hQ' _ _ (S3.mono z0) ?_;clear hQ';have R3:=R6.below S3 R6.lt;have aY:E7 W3 ⟨w.heap.size+1,0,none⟩ 32=true:=R3.can (by simp);refine C3 5 (by kernel_rfl) (by rfl) (by rfl) (fun Q' hQ'=>?_);dsimp only[E5];go_wp2_with fail;refine hQ' _ _ (C0 (S3.mono z0) (by simp) _) ?_;clear hQ';refine F0 (by kernel_rfl) ?_;go_wp2_with fail;exact bodyPost_ret (C7 rfl _ _ _ _ _ _ rfl (R3.puts (vs:=c8 rt) (by simp[aR])) Tryz.underlying35 rfl (by simp[I8,aR])) rfl ⟨rfl,C0 (C1 B6 S3 B6.size) (by simp) _⟩
theorem Wd:∀(p:Pt),p.Wf→∀w:World,Calls Tryz.prog 99 #[p.val] w fun e w'=>e=.returned (A8 p.root)∧Below w.heap.size w w'
 | .e,_,w=>by
  dsimp only[Pt.val,Pt.root];go_enter Tryz.func99,Tryz.ntmps99;go_wp2_with fail;have R0:Bk (w.alloc (Obj.cells (c8 (z8 32)).toArray 35)) w.heap.size 35 (c8 (z8 32)):=Bk.new w _ _;exact bodyPost_ret (C7 rfl _ _ _ _ _ _ rfl (R0.puts (vs:=c8 (z8 32)) (by simp)) Tryz.underlying35 rfl (by simp[I8])) rfl ⟨rfl,C0 ((Below.refl _ _).alloc (Nat.le_refl _) _) (Nat.le_refl _) _⟩
 | .lf k v,hw,w=>by
  dsimp only[Pt.val];have aA:=Pt.root_length hw;have R0:Bk (w.alloc (Obj.cells (c8 (z8 32)).toArray 35)) w.heap.size 35 (c8 (z8 32)):=Bk.new w _ _;go_enter Tryz.func99,Tryz.ntmps99;go_wp2_with fail;refine (C2f k v hw.1 hw.2 _).mono ?_;rintro e w1 ⟨rfl,h1⟩;have R1:=R0.below h1 R0.lt;have aB:E7 w1 ⟨w.heap.size,0,none⟩ 32=true:=R1.can (by simp);have B1:Below w.heap.size w w1:=((Below.refl _ _).alloc (Nat.le_refl _) _).trans (h1.mono (by simp));go_wp2_with fail;exact bodyPost_ret (C7 rfl _ _ _ _ _ _ rfl (R1.puts (vs:=c8 (Pt.lf k v).root) (by simp[aA])) Tryz.underlying35 rfl (by simp[I8,aA])) rfl ⟨rfl,C0 B1 (by simp) _⟩
 | .hd h,hw,w=>by
  dsimp only[Pt.val];have aA:=Pt.root_length (p:=.hd h) hw;have R0:Bk (w.alloc (Obj.cells (c8 (z8 32)).toArray 35)) w.heap.size 35 (c8 (z8 32)):=Bk.new w _ _;go_enter Tryz.func99,Tryz.ntmps99;go_wp2_with fail;refine (B2z h hw _).mono ?_;rintro e w1 ⟨rfl,h1⟩;have R1:=R0.below h1 R0.lt;have aB:E7 w1 ⟨w.heap.size,0,none⟩ 32=true:=R1.can (by simp);have B1:Below w.heap.size w w1:=((Below.refl _ _).alloc (Nat.le_refl _) _).trans (h1.mono (by simp));go_wp2_with fail;exact bodyPost_ret (C7 rfl _ _ _ _ _ _ rfl (R1.puts (vs:=c8 (Pt.hd h).root) (by simp[aA])) Tryz.underlying35 rfl (by simp[I8,aA])) rfl ⟨rfl,C0 B1 (by simp) _⟩
 | .nd l r,hw,w=>by
  have aC:=Wd l hw.1;have aD:=Wd r hw.2;dsimp only[Pt.val];have aA:=Pt.root_length (p:=.nd l r) hw;have R0:Bk (w.alloc (Obj.cells (c8 (z8 32)).toArray 35)) w.heap.size 35 (c8 (z8 32)):=Bk.new w _ _;go_enter Tryz.func99,Tryz.ntmps99;go_wp2_with fail;refine (B6j l r hw.1 hw.2 aC aD _).mono ?_;rintro e w1 ⟨rfl,h1⟩;have R1:=R0.below h1 R0.lt;have aB:E7 w1 ⟨w.heap.size,0,none⟩ 32=true:=R1.can (by simp);have B1:Below w.heap.size w w1:=((Below.refl _ _).alloc (Nat.le_refl _) _).trans (h1.mono (by simp));go_wp2_with fail;exact bodyPost_ret (C7 rfl _ _ _ _ _ _ rfl (R1.puts (vs:=c8 (Pt.nd l r).root) (by simp[aA])) Tryz.underlying35 rfl (by simp[I8,aA])) rfl ⟨rfl,C0 B1 (by simp) _⟩
end
def Pt.bytes:Pt→List UInt8
 | .e=>[0]
 | .lf k v=>[1]++k++v
 | .nd l r=>[2]++l.bytes++r.bytes
 | .hd h=>[3]++h
def Pa (w w':World) (v u:Value):Prop:=w.grownBy w' v.ownBlock∧(u.ownBlock=v.ownBlock∨∃g,u.ownBlock=some g∧w.heap.size≤g)
theorem Pa.refl (w:World) (v:Value):Pa w w v v:=⟨⟨rfl,rfl,rfl,Nat.le_refl _,fun _ _ _=>rfl⟩,.inl rfl⟩
theorem Pa.trans {a b c:World} {u v x:Value} (h:Pa a b u v) (k:Pa b c v x):Pa a c u x:=by
 obtain⟨h1,h2⟩:=h;obtain⟨k1,k2⟩:=k;refine ⟨⟨k1.os.trans h1.os,k1.tape.trans h1.tape,k1.output.trans h1.output,Nat.le_trans h1.size k1.size,fun i hi hne=>?_⟩,?_⟩
 ·refine (k1.block i (Nat.lt_of_lt_of_le hi h1.size) ?_).trans (h1.block i hi hne);rcases h2 with h2 | ⟨g,h2,h3⟩
  ·rw[h2];exact hne
  ·rw[h2];intro e;injection e with e;omega
 ·rcases k2 with k2 | ⟨g,k2,k3⟩
  ·rcases h2 with h2 | ⟨g,h2,h3⟩
   ·exact .inl (k2.trans h2)
   ·exact .inr ⟨g,k2.trans h2,h3⟩
  ·exact .inr ⟨g,k2,Nat.le_trans h1.size k3⟩
theorem Pa.more {a b c:World} {u v:Value} (h:Pa a b u v) (hb:Below b.heap.size b c):Pa a c u v:=by
 obtain⟨h1,h2⟩:=h;refine ⟨⟨hb.os.trans h1.os,hb.tape.trans h1.tape,hb.output.trans h1.output,Nat.le_trans h1.size hb.size,fun i hi hne=>?_⟩,h2⟩;exact (hb.block i (Nat.lt_of_lt_of_le hi h1.size)).trans (h1.block i hi hne)
theorem Pa.bk {a b:World} {u v:Value} {g:Nat} {t:TypeId} {cs:List Value} (h:Pa a b u v) (hk:Bk a g t cs) (hne:u.ownBlock≠some g):Bk b g t cs∧v.ownBlock≠some g:=by
 refine ⟨hk.grown h.1 (fun e=>hne e.symm),?_⟩;have:=hk.lt;rcases h.2 with h2 | ⟨g',h2,h3⟩
 ·rw[h2];exact hne
 ·rw[h2];intro e;injection e with e;omega
theorem Pa.below {a b:World} {u v:Value} {base:Nat} {l:List UInt8} (h:Pa a b u v) (ho:I5 a base u l) (hb:base≤a.heap.size):Below base a b:=
 (Below.refl _ _).grown h.1 hb (fun k hk=>(World.ownsRow.lt ho k hk).1)
theorem B7y (k v:List UInt8) (hk:k.length=32) (hv:v.length=32) (b:Value) (l:List UInt8) (base:Nat) (w:World) (hb:I5 w base b l) (hbs:base≤w.heap.size) (hsz:l.length≤1099511627776) :
 Calls Tryz.prog 93 #[b,(Pt.lf k v).val] w fun e w'=>∃u,e=.returned u∧I5 w' base u (l++(Pt.lf k v).bytes)∧Pa w w' b u:=by
 have aE:(pb (k,v)).length=64:=Kw.len ⟨hk,hv⟩;have aB:∀g,b.ownBlock=some g→g<w.heap.size:=fun g hg=>(World.ownsRow.lt hb g hg).2;obtain⟨W0,aC⟩:∃x,x=C4 (w.alloc (Obj.cells (c8 (z8 64)).toArray 237)) ⟨w.heap.size,0,none⟩ (c8 (pb (k,v))):=⟨_,rfl⟩;have K0:Bk W0 w.heap.size 237 (c8 (pb (k,v))):=by rw[aC];exact Bk.fresh w _ (by simp[aE])
 have B0:Below w.heap.size w W0:=by rw[aC];exact C0 ((Below.refl _ _).alloc (Nat.le_refl _) _) (Nat.le_refl _) _
 have O0:I5 W0 base b l:=hb.below B0 (Nat.le_refl _);have G0:Pa w W0 b b:=(Pa.refl _ _).more B0;have N0:b.ownBlock≠some w.heap.size:=fun e=>by have:=aB _ e;omega
 have z0:=B0.size;have aA:((l++[1])++k)++v=l++(Pt.lf k v).bytes:=by simp[Pt.bytes]
 rw[←aA];clear aA;dsimp only[Pt.val];go_enter Tryz.func93,Tryz.ntmps93;go_wp2_with fail;rw[←aC];clear aC hb;have S0:base≤W0.drew.heap.size:=by have:W0.drew.heap.size=W0.heap.size:=rfl;omega
 refine E3 (fun W=>base≤W.heap.size) (by kernel_rfl) ?_;refine C5 (A:=?A1) [0,3,4,6,7] (by kernel_rfl) (by kernel_rfl) rfl (by kernel_rfl) (by kernel_rfl) S0 (h:=fun W hW=>?h1) (hr:=?r1);case h1=>
  simp only[pick,List.getElem?_cons_zero,List.getElem?_cons_succ];repeat (go_big_quiet_step (fail))
  refine wpQuiet_nil ?_;rfl
 case r1=>
  refine C3 1 (by kernel_rfl) (by rfl) (by rfl) (fun Q' hQ'=>?_);dsimp only[E5];go_wp2_with fail;obtain⟨W1,aD⟩:∃x,x=(W0.alloc (Obj.cells #[.int .u8 1] 5)).drew:=⟨_,rfl⟩;rw[←aD];have b1:Below W0.heap.size W0 W1:=by rw[aD];exact ((Below.refl _ _).alloc (Nat.le_refl _) _).drew
  have y0:By W1 0 W1.heap.size (.slice (some ⟨W0.heap.size,0,none⟩) 1 1) [1]:=by rw[aD];exact (By.build W0 5 (0,0) [1] (by simp)).more (by simp)
  have z1:=b1.size;have O1:=O0.below b1 (Nat.le_refl _);have G1:=G0.more b1;have K1:=K0.below b1 K0.lt;refine hQ' _ _ (by omega) ?_;clear hQ' aD;refine C3 2 (by kernel_rfl) (by rfl) (by rfl) (fun Q' hQ'=>?_);dsimp only[E5];refine Ud _ base _ _ rfl _ _ rfl rfl O1 _ rfl [1] 0 _ y0 (by simp;omega) (by omega) ?_;intro A2 c2 W2 aF aG O2 _ aH aI;obtain⟨u2,aR⟩:∃u,u=Value.slice A2 (l++[1]).length c2:=⟨_,rfl⟩;rw[←aR]at O2 aI ⊢;clear aR aF aG;have g2:Pa W1 W2 b u2:=⟨aH,aI.imp id fun e=>⟨_,e,Nat.le_refl _⟩⟩;have G2:=G1.trans g2;obtain⟨K2,N2⟩:=g2.bk K1 N0;have z2:=aH.size;go_wp2_with fail;refine hQ' _ _ (by omega) ?_;clear hQ' aH aI;have yk:By W2 0 W2.heap.size (.slice (some ⟨w.heap.size,0,none⟩) 32 32) k:=By.of_row (Mm K2 ⟨hk,hv⟩) K2.lt (by omega);refine C3 5 (by kernel_rfl) (by rfl) (by rfl) (fun Q' hQ'=>?_);dsimp only[E5];refine Ud _ base _ _ rfl _ _ rfl rfl O2 _ rfl k 0 _ yk (by simp;omega) (by omega) ?_;intro A3 c3 W3 aJ aK O3 _ aL aM;obtain⟨u3,aS⟩:∃u,u=Value.slice A3 ((l++[1])++k).length c3:=⟨_,rfl⟩;rw[←aS]at O3 aM ⊢;clear aS aJ aK;have g3:Pa W2 W3 u2 u3:=⟨aL,aM.imp id fun e=>⟨_,e,Nat.le_refl _⟩⟩;have G3:=G2.trans g3;obtain⟨K3,N3⟩:=g3.bk K2 N2;have z3:=aL.size;go_wp2_with fail;refine hQ' _ _ (by omega) ?_;clear hQ' aL aM;have yv:By W3 0 W3.heap.size (.slice (some ⟨w.heap.size,32,none⟩) 32 32) v:=By.of_row (Sz K3 ⟨hk,hv⟩) K3.lt (by omega);refine C3 8 (by kernel_rfl) (by rfl) (by rfl) (fun Q' hQ'=>?_)
  dsimp only[E5];refine Ud _ base _ _ rfl _ _ rfl rfl O3 _ rfl v 0 _ yv (by simp;omega) (by omega) ?_;intro A4 c4 W4 aN aO O4 _ aP aQ;obtain⟨u4,aT⟩:∃u,u=Value.slice A4 (((l++[1])++k)++v).length c4:=⟨_,rfl⟩;rw[←aT]at O4 aQ ⊢;clear aT aN aO;have g4:Pa W3 W4 u3 u4:=⟨aP,aQ.imp id fun e=>⟨_,e,Nat.le_refl _⟩⟩;have G4:=G3.trans g4;have z4:=aP.size;go_wp2_with fail;refine hQ' _ _ (by omega) ?_;clear hQ' aP aQ;refine C3 9 (by kernel_rfl) (by rfl) (by rfl) (fun Q' hQ'=>?_);dsimp only[E5];go_wp2_with fail;refine hQ' _ _ (by omega) ?_;clear hQ';refine F0 (by kernel_rfl) ?_;go_wp2_with fail;go_ret;exact ⟨_,rfl,O4,G4⟩
theorem C2r (b:Value) (l:List UInt8) (base:Nat) (w:World) (hb:I5 w base b l) (hbs:base≤w.heap.size) (hsz:l.length≤1099511627776) :
 Calls Tryz.prog 93 #[b,Pt.e.val] w fun e w'=>∃u,e=.returned u∧I5 w' base u (l++Pt.e.bytes)∧Pa w w' b u:=by
 have y0:By (w.alloc (Obj.cells #[.int .u8 0] 5)) 0 (w.heap.size+1) (.slice (some ⟨w.heap.size,0,none⟩) 1 1) [0]:=By.build w 5 (0,0) [0] (by simp);have O1:I5 (w.alloc (Obj.cells #[.int .u8 0] 5)) base b l:=hb.alloc _;have G1:Pa w (w.alloc (Obj.cells #[.int .u8 0] 5)) b b:=(Pa.refl _ _).more ((Below.refl _ _).alloc (Nat.le_refl _) _);dsimp only[Pt.val,Pt.bytes];go_enter Tryz.func93,Tryz.ntmps93;go_wp2_with (at_builtin;refine Ud _ base _ _ rfl _ _ rfl rfl O1 _ rfl [0] 0 _ y0 (by simp;omega) (by simp;omega) ?_;intro A2 c2 W2 aA aB O2 _ aE aC;obtain⟨u2,aD⟩:∃u,u=Value.slice A2 (l++[0]).length c2:=⟨_,rfl⟩;rw[←aD]at O2 aC ⊢;clear aD aA aB);go_ret;exact ⟨_,rfl,O2,G1.trans ⟨aE,aC.imp id fun e=>⟨_,e,Nat.le_refl _⟩⟩⟩
theorem A6u (h:List UInt8) (hh:h.length=32) (b:Value) (l:List UInt8) (base:Nat) (w:World) (hb:I5 w base b l) (hbs:base≤w.heap.size) (hsz:l.length≤1099511627776) :
 Calls Tryz.prog 93 #[b,(Pt.hd h).val] w fun e w'=>∃u,e=.returned u∧I5 w' base u (l++(Pt.hd h).bytes)∧Pa w w' b u:=by
 have aB:∀g,b.ownBlock=some g→g<w.heap.size:=fun g hg=>(World.ownsRow.lt hb g hg).2;obtain⟨W0,aC⟩:∃x,x=C4 (w.alloc (Obj.cells (c8 (z8 32)).toArray 233)) ⟨w.heap.size,0,none⟩ (c8 h):=⟨_,rfl⟩;have K0:Bk W0 w.heap.size 233 (c8 h):=by rw[aC];exact Bk.fresh w _ (by simp[hh])
 have B0:Below w.heap.size w W0:=by rw[aC];exact C0 ((Below.refl _ _).alloc (Nat.le_refl _) _) (Nat.le_refl _) _
 have O0:I5 W0 base b l:=hb.below B0 (Nat.le_refl _);have G0:Pa w W0 b b:=(Pa.refl _ _).more B0;have N0:b.ownBlock≠some w.heap.size:=fun e=>by have:=aB _ e;omega
 have z0:=B0.size;have aA:(l++[3])++h=l++(Pt.hd h).bytes:=by simp[Pt.bytes]
 rw[←aA];clear aA;dsimp only[Pt.val];go_enter Tryz.func93,Tryz.ntmps93;go_wp2_with fail;rw[←aC];clear aC hb;have S0:base≤W0.drew.heap.size:=by have:W0.drew.heap.size=W0.heap.size:=rfl;omega
 refine E3 (fun W=>base≤W.heap.size) (by kernel_rfl) ?_;refine C5 (A:=?A1) [0,3,4] (by kernel_rfl) (by kernel_rfl) rfl (by kernel_rfl) (by kernel_rfl) S0 (h:=fun W hW=>?h1) (hr:=?r1);case h1=>
  simp only[pick,List.getElem?_cons_zero,List.getElem?_cons_succ];repeat (go_big_quiet_step (fail))
  refine wpQuiet_nil ?_;rfl
 case r1=>
  refine C3 1 (by kernel_rfl) (by rfl) (by rfl) (fun Q' hQ'=>?_);dsimp only[E5];go_wp2_with fail;obtain⟨W1,aD⟩:∃x,x=(W0.alloc (Obj.cells #[.int .u8 3] 5)).drew:=⟨_,rfl⟩;rw[←aD];have b1:Below W0.heap.size W0 W1:=by rw[aD];exact ((Below.refl _ _).alloc (Nat.le_refl _) _).drew
  have y0:By W1 0 W1.heap.size (.slice (some ⟨W0.heap.size,0,none⟩) 1 1) [3]:=by rw[aD];exact (By.build W0 5 (0,0) [3] (by simp)).more (by simp)
  have z1:=b1.size;have O1:=O0.below b1 (Nat.le_refl _);have G1:=G0.more b1;have K1:=K0.below b1 K0.lt;refine hQ' _ _ (by omega) ?_;clear hQ' aD;refine C3 2 (by kernel_rfl) (by rfl) (by rfl) (fun Q' hQ'=>?_);dsimp only[E5];refine Ud _ base _ _ rfl _ _ rfl rfl O1 _ rfl [3] 0 _ y0 (by simp;omega) (by omega) ?_;intro A2 c2 W2 aE aF O2 _ aG aH;obtain⟨u2,aM⟩:∃u,u=Value.slice A2 (l++[3]).length c2:=⟨_,rfl⟩;rw[←aM]at O2 aH ⊢;clear aM aE aF;have g2:Pa W1 W2 b u2:=⟨aG,aH.imp id fun e=>⟨_,e,Nat.le_refl _⟩⟩;have G2:=G1.trans g2;obtain⟨K2,N2⟩:=g2.bk K1 N0;have z2:=aG.size;go_wp2_with fail;refine hQ' _ _ (by omega) ?_;clear hQ' aG aH;have yk:By W2 0 W2.heap.size (.slice (some ⟨w.heap.size,0,none⟩) 32 32) h:=By.of_row (by have:=K2.rows;rwa [C6,hh]at this) K2.lt (by omega);refine C3 5 (by kernel_rfl) (by rfl) (by rfl) (fun Q' hQ'=>?_);dsimp only[E5];refine Ud _ base _ _ rfl _ _ rfl rfl O2 _ rfl h 0 _ yk (by simp;omega) (by omega) ?_;intro A3 c3 W3 aI aJ O3 _ aK aL;obtain⟨u3,aN⟩:∃u,u=Value.slice A3 ((l++[3])++h).length c3:=⟨_,rfl⟩;rw[←aN]at O3 aL ⊢;clear aN aI aJ;have g3:Pa W2 W3 u2 u3:=⟨aK,aL.imp id fun e=>⟨_,e,Nat.le_refl _⟩⟩;have G3:=G2.trans g3;have z3:=aK.size;go_wp2_with fail;refine hQ' _ _ (by omega) ?_;clear hQ' aK aL;refine C3 6 (by kernel_rfl) (by rfl) (by rfl) (fun Q' hQ'=>?_);dsimp only[E5];go_wp2_with fail;refine hQ' _ _ (by omega) ?_;clear hQ';refine F0 (by kernel_rfl) ?_;go_wp2_with fail;go_ret
  exact ⟨_,rfl,O3,G3⟩
theorem B2a (p q:Pt) (b:Value) (l:List UInt8) (base:Nat) (w:World) (hb:I5 w base b l) (hbs:base≤w.heap.size) (hsz:l.length+(Pt.nd p q).bytes.length≤1099511627776)
 (IHp:∀(b:Value) (l:List UInt8) (w:World),I5 w base b l→base≤w.heap.size→l.length+p.bytes.length≤1099511627776→Calls Tryz.prog 93 #[b,p.val] w fun e w'=>∃u,e=.returned u∧I5 w' base u (l++p.bytes)∧Pa w w' b u)
 (IHq:∀(b:Value) (l:List UInt8) (w:World),I5 w base b l→base≤w.heap.size→l.length+q.bytes.length≤1099511627776→Calls Tryz.prog 93 #[b,q.val] w fun e w'=>∃u,e=.returned u∧I5 w' base u (l++q.bytes)∧Pa w w' b u) :
 Calls Tryz.prog 93 #[b,(Pt.nd p q).val] w fun e w'=>∃u,e=.returned u∧I5 w' base u (l++(Pt.nd p q).bytes)∧Pa w w' b u:=by
 have aB:∀g,b.ownBlock=some g→g<w.heap.size:=fun g hg=>(World.ownsRow.lt hb g hg).2;have aA:((l++[2])++p.bytes)++q.bytes=l++(Pt.nd p q).bytes:=by simp[Pt.bytes]
 have aC:(Pt.nd p q).bytes.length=1+p.bytes.length+q.bytes.length:=by simp[Pt.bytes];omega
 rw[←aA];rw[aC]at hsz;clear aA aC;dsimp only[Pt.val];generalize p.bytes=pb1 at *;generalize q.bytes=qb1 at *;go_enter Tryz.func93,Tryz.ntmps93;go_wp2_with fail;obtain⟨W0,aD⟩:∃x,x=w.alloc (Obj.cells #[p.val,q.val] 244):=⟨_,rfl⟩;rw[←aD];have K0:Bk W0 w.heap.size 244 [p.val,q.val]:=by rw[aD];exact Bk.new w _ [p.val,q.val]
 have B0:Below w.heap.size w W0:=by rw[aD];exact (Below.refl _ _).alloc (Nat.le_refl _) _
 have O0:I5 W0 base b l:=hb.below B0 (Nat.le_refl _);have G0:Pa w W0 b b:=(Pa.refl _ _).more B0;have N0:b.ownBlock≠some w.heap.size:=fun e=>by have:=aB _ e;omega
 have z0:=B0.size;clear aD hb;have S0:base≤W0.drew.heap.size∧Bk W0.drew w.heap.size 244 [p.val,q.val]:=⟨by have:W0.drew.heap.size=W0.heap.size:=rfl;omega,K0.drew⟩;refine E3 (fun W=>base≤W.heap.size∧Bk W w.heap.size 244 [p.val,q.val]) (by kernel_rfl) ?_;refine C5 (A:=?A1) [0,3,4,6,7] (by kernel_rfl) (by kernel_rfl) rfl (by kernel_rfl) (by kernel_rfl) S0 (h:=fun W hW=>?h1) (hr:=?r1);case h1=>
  have c0:W.cell? ⟨w.heap.size,0,none⟩=some p.val:=hW.2.at_ rfl;have c1:W.cell? ⟨w.heap.size,1,none⟩=some q.val:=hW.2.at_ rfl;simp only[pick,List.getElem?_cons_zero,List.getElem?_cons_succ];repeat (go_big_quiet_step (fail))
  refine wpQuiet_nil ?_;rfl
 case r1=>
  refine C3 1 (by kernel_rfl) (by rfl) (by rfl) (fun Q' hQ'=>?_);dsimp only[E5];go_wp2_with fail;obtain⟨W1,aE⟩:∃x,x=(W0.alloc (Obj.cells #[.int .u8 2] 5)).drew:=⟨_,rfl⟩;rw[←aE];have b1:Below W0.heap.size W0 W1:=by rw[aE];exact ((Below.refl _ _).alloc (Nat.le_refl _) _).drew
  have y0:By W1 0 W1.heap.size (.slice (some ⟨W0.heap.size,0,none⟩) 1 1) [2]:=by rw[aE];exact (By.build W0 5 (0,0) [2] (by simp)).more (by simp)
  have z1:=b1.size;have O1:=O0.below b1 (Nat.le_refl _);have G1:=G0.more b1;have K1:=K0.below b1 K0.lt;refine hQ' _ _ ⟨by omega,K1⟩ ?_;clear hQ' aE;refine C3 2 (by kernel_rfl) (by rfl) (by rfl) (fun Q' hQ'=>?_);dsimp only[E5];refine Ud _ base _ _ rfl _ _ rfl rfl O1 _ rfl [2] 0 _ y0 (by simp;omega) (by omega) ?_;intro A2 c2 W2 aF aG O2 _ aH aI;obtain⟨u2,aJ⟩:∃u,u=Value.slice A2 (l++[2]).length c2:=⟨_,rfl⟩;rw[←aJ]at O2 aI ⊢;clear aJ aF aG;have g2:Pa W1 W2 b u2:=⟨aH,aI.imp id fun e=>⟨_,e,Nat.le_refl _⟩⟩;have G2:=G1.trans g2;obtain⟨K2,N2⟩:=g2.bk K1 N0;have z2:=aH.size;go_wp2_with fail;refine hQ' _ _ ⟨by omega,K2⟩ ?_;clear hQ' aH aI;refine C3 5 (by kernel_rfl) (by rfl) (by rfl) (fun Q' hQ'=>?_);dsimp only[E5];go_wp2_with fail;refine (IHp u2 (l++[2]) W2 O2 (by omega) (by simp;omega)).mono ?_;rintro e W3 ⟨u3,rfl,O3,g3⟩;have G3:=G2.trans g3;obtain⟨K3,N3⟩:=g3.bk K2 N2;have z3:=g3.1.size;go_wp2_with fail;refine hQ' _ _ ⟨by omega,K3⟩ ?_;clear hQ';refine C3 8 (by kernel_rfl) (by rfl) (by rfl) (fun Q' hQ'=>?_);dsimp only[E5];go_wp2_with fail;refine (IHq u3 ((l++[2])++pb1) W3 O3 (by omega) (by simp;omega)).mono ?_;rintro e W4 ⟨u4,rfl,O4,g4⟩;have G4:=G3.trans g4;obtain⟨K4,N4⟩:=g4.bk K3 N3;have z4:=g4.1.size;go_wp2_with fail;refine hQ' _ _ ⟨by omega,K4⟩ ?_;clear hQ';refine C3 9 (by kernel_rfl) (by rfl) (by rfl) (fun Q' hQ'=>?_);dsimp only[E5];go_wp2_with fail;refine hQ' _ _ ⟨by omega,K4⟩ ?_;clear hQ';refine F0 (by kernel_rfl) ?_
  go_wp2_with fail;go_ret;exact ⟨_,rfl,O4,G4⟩
theorem Vi:∀(p:Pt),p.Wf→∀(base:Nat) (b:Value) (l:List UInt8) (w:World),I5 w base b l→base≤w.heap.size→l.length+p.bytes.length≤1099511627776→
 Calls Tryz.prog 93 #[b,p.val] w fun e w'=>∃u,e=.returned u∧I5 w' base u (l++p.bytes)∧Pa w w' b u
 | .e,_,base,b,l,w,hb,hbs,hsz=>C2r b l base w hb hbs (by omega)
 | .lf k v,hw,base,b,l,w,hb,hbs,hsz=>B7y k v hw.1 hw.2 b l base w hb hbs (by omega)
 | .hd h,hw,base,b,l,w,hb,hbs,hsz=>A6u h hw b l base w hb hbs (by omega)
 | .nd p q,hw,base,b,l,w,hb,hbs,hsz=>B2a p q b l base w hb hbs hsz (Vi p hw.1 base) (Vi q hw.2 base)
theorem B6r (p:Pt) (hw:p.Wf) (hsz:p.bytes.length≤1099511627776) (w:World) :
 Calls Tryz.prog 49 #[.agg #[p.val]] w fun e w'=>∃u,e=.returned u∧I5 w' w.heap.size u p.bytes∧Below w.heap.size w w':=by
 obtain⟨W0,aA⟩:∃x,x=w.alloc (Obj.cells #[p.val] 122):=⟨_,rfl⟩;have B0:Below w.heap.size w W0:=by rw[aA];exact (Below.refl _ _).alloc (Nat.le_refl _) _
 go_enter Tryz.func49,Tryz.ntmps49;go_wp2_with fail;rw[←aA];refine (Vi p hw w.heap.size (.slice none 0 0) [] W0 (I5.nil _ _) B0.size (by simpa using hsz)).mono ?_;rintro e w1 ⟨u,rfl,ho,hg⟩;have hb:Below w.heap.size W0 w1:=hg.below (I5.nil _ _) B0.size;clear aA;go_wp2_with fail;go_ret;exact ⟨u,rfl,by simpa using ho,B0.trans hb⟩
theorem B4o (p:Pt) (hw:p.Wf) (w:World) :
 Calls Tryz.prog 52 #[.agg #[p.val]] w fun e w'=>e=.returned (A8 p.root)∧Below w.heap.size w w':=by
 have aB:=Pt.root_length hw;obtain⟨W0,aA⟩:∃x,x=(w.alloc (Obj.cells #[p.val] 122)).alloc (Obj.cells (c8 (z8 32)).toArray 35):=⟨_,rfl⟩;have R0:Bk W0 (w.heap.size+1) 35 (c8 (z8 32)):=by rw[aA];simpa using Bk.new (w.alloc (Obj.cells #[p.val] 122)) 35 (c8 (z8 32))
 have B0:Below w.heap.size w W0:=by rw[aA];exact ((Below.refl _ _).alloc (Nat.le_refl _) _).alloc (by simp) _
 go_enter Tryz.func52,Tryz.ntmps52;go_wp2_with fail;rw[←aA];refine (Wd p hw W0).mono ?_;rintro e w1 ⟨rfl,h1⟩;have R1:=R0.below h1 R0.lt;have aC:E7 w1 ⟨w.heap.size+1,0,none⟩ 32=true:=R1.can (by simp);have B1:=C1 B0 h1 B0.size;clear aA;go_wp2_with fail;exact bodyPost_ret (C7 rfl _ _ _ _ _ _ rfl (R1.puts (vs:=c8 p.root) (by simp[aB])) Tryz.underlying35 rfl (by simp[I8,aB])) rfl ⟨rfl,C0 B1 (by simp) _⟩
end Go.Proofs.YtdfpoofbgjilgaaGreat
