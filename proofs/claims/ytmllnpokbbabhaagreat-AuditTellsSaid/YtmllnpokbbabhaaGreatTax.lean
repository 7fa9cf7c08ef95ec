/- A part of the proof of AuditTells. -/
import Derived.Outline
import Derived.Test.YtmllnpokbbabhaaGreatTaw
set_option linter.unusedVariables false
set_option linter.unusedSimpArgs false
set_option maxRecDepth 100000
set_option maxHeartbeats 40000000
namespace Go.Proofs.YtmllnpokbbabhaaGreat
open Go Go.RowKit Sh
def D0g:Tr→List UInt8 | .lf k _=>k | _=>z8 32
def C7z:Tr→List UInt8 | .lf _ v=>v | _=>z8 32
def B9x:Tr→Bool | .lf _ _=>true | _=>false
def D7k:Tr→Tr | .nd l _=>l | _=>.e
def D7d:Tr→Tr | .nd _ r=>r | _=>.e
def E2t:Tr→Bool | .nd _ _=>true | _=>false
def C9b (d:Nat):Tr→Int | .nd _ _=>(d:Int)+1 | _=>0
theorem A6p (s:Tr) (p:Value) (d:Nat) (P:Nat→Bool) (w:World) (ok:Ok d P s) (h:At w w.heap.size s p) :
 Calls Tryz.prog 123 #[.agg #[p,.int .i64 (d:Int)]] w fun e w'=>e=.returned (.tuple #[A8 (D0g s),A8 (C7z s),.bool (B9x s)])∧Below w.heap.size w w':=by
 cases s with
 | e=>exact B2s .e p d w h (by simp[Tr.len])
 | lf k v=>exact C4f k v p d w h
 | nd l r=>exact B2s (.nd l r) p d w h (by have:=ok.2.1;simp only[Tr.len];omega)
theorem B8k (s:Tr) (p:Value) (d:Nat) (P:Nat→Bool) (w:World) (ok:Ok d P s) (hd:d≤256) (h:At w w.heap.size s p) :
 Calls Tryz.prog 124 #[.agg #[p,.int .i64 (d:Int)]] w fun e w'=>∃pl pr,e=.returned (.tuple #[.agg #[.pointer pl,.int .i64 (C9b d s)],.agg #[.pointer pr,.int .i64 (C9b d s)],.bool (E2t s)])∧At w' w'.heap.size (D7k s) (.pointer pl)∧At w' w'.heap.size (D7d s) (.pointer pr)∧Below w.heap.size w w':=by
 cases s with
 | e=>exact (A5m .e p d w h (by simp[Tr.len])).mono fun e w' ⟨h1,h2⟩=>⟨none,none,h1,rfl,rfl,h2⟩
 | lf k v=>exact (A5m (.lf k v) p d w h (by simp[Tr.len])).mono fun e w' ⟨h1,h2⟩=>⟨none,none,h1,rfl,rfl,h2⟩
 | nd l r=>
  refine (B8z l r p d w h ok.2.1 hd).mono fun e w' ⟨pl,pr,h1,h2,h3,h4⟩=>?_;obtain⟨al,rfl⟩:=h2.form;obtain⟨ar,rfl⟩:=h3.form;exact ⟨al,ar,h1,h2,h3,h4⟩
theorem A2w {m:Array Bool} {i:Nat} (h1:m.getD i true=false) (h2:m.getD i false=true):False:=by
 rcases Nat.lt_or_ge i m.size with h | h
 ·simp[h]at h1 h2;rw[h1]at h2;cases h2
 ·simp[Array.getElem?_eq_none h]at h1
theorem A5n {m:Array Bool} {i:Nat} (h:i<m.size) (j:Nat):(m.setIfInBounds i true).getD j false=(if j=i then true else m.getD j false):=by
 by_cases hj:j=i
 ·subst hj;simp[h]
 ·rw[if_neg hj];simp[Array.getElem?_setIfInBounds_ne (Ne.symm hj)]
def Ku (W0:World) (i j:Bool) (w:World) (s:Value) (r:List UInt8):Prop:=i=true→∃g,s=.pointer (some ⟨g,0,none⟩)∧W0.heap.size≤g∧Bk w g 40 (c8 (if j then r else z8 32))
def Le (W0:World) (fr:Value→Value→Value→Value→Act) (rl rr:List UInt8) (b1 b3 b4 b5 b6 b7:Bool) (ac:Act) (w:World):Prop:=
 ∃s1 s2 s3 s4,ac=fr s1 s2 s3 s4∧Below W0.heap.size W0 w∧(b1=true→s3=A8 rl)∧(b3=true→s4=A8 rr)∧Ku W0 b4 b6 w s1 rl∧Ku W0 b5 b7 w s2 rr∧(b4=true→b5=true→s1≠s2)∧(b6=true→b4=true)∧(b7=true→b5=true)
theorem Ku.below {W0:World} {i j:Bool} {w w':World} {s:Value} {r:List UInt8} (h:Ku W0 i j w s r) (hb:Below w.heap.size w w'):Ku W0 i j w' s r:=by
 intro hi;obtain⟨g,e,h1,h2⟩:=h hi;exact ⟨g,e,h1,h2.bl hb⟩
theorem Le.call1 {W0:World} {fr:Value→Value→Value→Value→Act} {rl rr:List UInt8} {b1 b3 b4 b5 b6 b7:Bool} {s1 s2 s3 s4:Value} {w w':World} (B:Below W0.heap.size W0 w) (F3:b3=true→s4=A8 rr) (F4:Ku W0 b4 b6 w s1 rl) (F5:Ku W0 b5 b7 w s2 rr) (F6:b4=true→b5=true→s1≠s2) (F7:(b6=true→b4=true)∧(b7=true→b5=true)) (hb:Below w.heap.size w w') :
 Le W0 fr rl rr true b3 b4 b5 b6 b7 (fr s1 s2 (A8 rl) s4) w':=⟨s1,s2,_,s4,rfl,C3 B hb B.size,fun _=>rfl,F3,F4.below hb,F5.below hb,F6,F7⟩
theorem Le.call3 {W0:World} {fr:Value→Value→Value→Value→Act} {rl rr:List UInt8} {b1 b3 b4 b5 b6 b7:Bool} {s1 s2 s3 s4:Value} {w w':World} (B:Below W0.heap.size W0 w) (F1:b1=true→s3=A8 rl) (F4:Ku W0 b4 b6 w s1 rl) (F5:Ku W0 b5 b7 w s2 rr) (F6:b4=true→b5=true→s1≠s2) (F7:(b6=true→b4=true)∧(b7=true→b5=true)) (hb:Below w.heap.size w w') :
 Le W0 fr rl rr b1 true b4 b5 b6 b7 (fr s1 s2 s3 (A8 rr)) w':=⟨s1,s2,s3,_,rfl,C3 B hb B.size,F1,fun _=>rfl,F4.below hb,F5.below hb,F6,F7⟩
theorem Le.alloc4 {W0:World} {fr:Value→Value→Value→Value→Act} {rl rr:List UInt8} {b1 b3 b5 b6 b7:Bool} {s1 s2 s3 s4:Value} {w:World} (B:Below W0.heap.size W0 w) (F1:b1=true→s3=A8 rl) (F3:b3=true→s4=A8 rr) (F5:Ku W0 b5 b7 w s2 rr) (F7:(b6=true→false=true)∧(b7=true→b5=true)) :
 Le W0 fr rl rr b1 b3 true b5 b6 b7 (fr (.pointer (some ⟨w.heap.size,0,none⟩)) s2 s3 s4) (w.alloc (Obj.cells (c8 (z8 32)).toArray 40)):=by
 have hb:Below w.heap.size w (w.alloc (Obj.cells (c8 (z8 32)).toArray 40)):=U7 _ _;obtain rfl:b6=false:=by cases b6 with | false=>rfl | true=>exact (F7.1 rfl).symm
 refine ⟨_,s2,s3,s4,rfl,C3 B hb B.size,F1,F3,fun _=>⟨_,rfl,B.size,Bk.new w _ _⟩,F5.below hb,?_,fun _=>rfl,F7.2⟩;intro _ h5 e;obtain⟨g,e2,_,K⟩:=F5 h5;rw[e2]at e;injection e with e;injection e with e;injection e with e;have:=K.lt;omega
theorem Le.alloc5 {W0:World} {fr:Value→Value→Value→Value→Act} {rl rr:List UInt8} {b1 b3 b4 b6 b7:Bool} {s1 s2 s3 s4:Value} {w:World} (B:Below W0.heap.size W0 w) (F1:b1=true→s3=A8 rl) (F3:b3=true→s4=A8 rr) (F4:Ku W0 b4 b6 w s1 rl) (F7:(b6=true→b4=true)∧(b7=true→false=true)) :
 Le W0 fr rl rr b1 b3 b4 true b6 b7 (fr s1 (.pointer (some ⟨w.heap.size,0,none⟩)) s3 s4) (w.alloc (Obj.cells (c8 (z8 32)).toArray 40)):=by
 have hb:Below w.heap.size w (w.alloc (Obj.cells (c8 (z8 32)).toArray 40)):=U7 _ _;obtain rfl:b7=false:=by cases b7 with | false=>rfl | true=>exact (F7.2 rfl).symm
 refine ⟨s1,_,s3,s4,rfl,C3 B hb B.size,F1,F3,F4.below hb,fun _=>⟨_,rfl,B.size,Bk.new w _ _⟩,?_,F7.1,fun _=>rfl⟩;intro h4 _ e;obtain⟨g,e2,_,K⟩:=F4 h4;rw[e2]at e;injection e with e;injection e with e;injection e with e;have:=K.lt;omega
theorem Le.store6 {W0:World} {fr:Value→Value→Value→Value→Act} {rl rr:List UInt8} {b1 b3 b5 b6 b7:Bool} {g:Nat} {s2 s3 s4:Value} {w:World} {x:List UInt8} (B:Below W0.heap.size W0 w) (hg:W0.heap.size≤g) (K:Bk w g 40 (c8 x)) (hx:x.length=rl.length) (F1:b1=true→s3=A8 rl) (F3:b3=true→s4=A8 rr) (F5:Ku W0 b5 b7 w s2 rr) (F6:b5=true→.pointer (some ⟨g,0,none⟩)≠s2) (F7:b7=true→b5=true) :
 Le W0 fr rl rr b1 b3 true b5 true b7 (fr (.pointer (some ⟨g,0,none⟩)) s2 s3 s4) (C2 w ⟨g,0,none⟩ (c8 rl)):=by
 refine ⟨_,s2,s3,s4,rfl,C0 B hg _,F1,F3,fun _=>⟨_,rfl,hg,K.puts (by simp[hx])⟩,?_,fun _ h5=>F6 h5,fun _=>rfl,F7⟩;intro h5;obtain⟨g2,e2,h2,K2⟩:=F5 h5;refine ⟨g2,e2,h2,K2.putFar ?_ _⟩;intro e;exact F6 h5 (by rw[e2];simp at e;simp[e])
theorem Le.store7 {W0:World} {fr:Value→Value→Value→Value→Act} {rl rr:List UInt8} {b1 b3 b4 b6 b7:Bool} {g:Nat} {s1 s3 s4:Value} {w:World} {x:List UInt8} (B:Below W0.heap.size W0 w) (hg:W0.heap.size≤g) (K:Bk w g 40 (c8 x)) (hx:x.length=rr.length) (F1:b1=true→s3=A8 rl) (F3:b3=true→s4=A8 rr) (F4:Ku W0 b4 b6 w s1 rl) (F6:b4=true→s1≠.pointer (some ⟨g,0,none⟩)) (F7:b6=true→b4=true) :
 Le W0 fr rl rr b1 b3 b4 true b6 true (fr s1 (.pointer (some ⟨g,0,none⟩)) s3 s4) (C2 w ⟨g,0,none⟩ (c8 rr)):=by
 refine ⟨s1,_,s3,s4,rfl,C0 B hg _,F1,F3,?_,fun _=>⟨_,rfl,hg,K.puts (by simp[hx])⟩,fun h4 _=>F6 h4,F7,fun _=>rfl⟩;intro h4;obtain⟨g2,e2,h2,K2⟩:=F4 h4;refine ⟨g2,e2,h2,K2.putFar ?_ _⟩;intro e;exact F6 h4 (by rw[e2];simp at e;simp[e])
section
theorem C7t:(Tryz.prog.info? 216).map (·.size)=some 64:=by kernel_rfl
theorem D0j:((Tryz.prog.info? 216).bind (·.zero))=some (A8 (z8 64)):=by kernel_rfl
theorem B6b:Tryz.prog.underlying 216=some (.struct (Q5 Tryz.prog 216)):=by kernel_rfl
theorem D0p (w:World):(Eu (Q5 Tryz.prog 216)).run Tryz.prog w=.ok #[(0,32),(32,32)] w:=by kernel_rfl
theorem D9i:(Tryz.prog.info? 212).map (·.size)=some 32:=by kernel_rfl
theorem C7v:((Tryz.prog.info? 212).bind (·.zero))=some (A8 (z8 32)):=by kernel_rfl
theorem C7p:Tryz.prog.underlying 212=some (.struct (Q5 Tryz.prog 212)):=by kernel_rfl
theorem D0o (w:World):(Eu (Q5 Tryz.prog 212)).run Tryz.prog w=.ok #[(0,32)] w:=by kernel_rfl
section
variable (w : World) (ρ : Operand → Value) (dst : Option Tmp) (ty : TypeId) (pos : String) (after : Array Edge) (guard : Option (Nat × Bool))
@[go_sem ↓ high] theorem E1t:RL' 216 64:=LL' B6b C7t
@[go_sem ↓ high] theorem E0d:RS' 216 64:=SS' C7t
@[go_sem ↓ high] theorem E0i:RA' 216 (c8 (z8 64)).toArray:=fun w ρ dst ty pos after guard=>N8 w ρ dst ty pos after guard 216 (A8 (z8 64)) D0j
@[go_sem ↓ high] theorem E7t:RB' 216:=BX' _
@[go_sem ↓ high] theorem D4i:RS' 212 32:=SS' D9i
@[go_sem ↓ high] theorem D4h:RA' 212 (c8 (z8 32)).toArray:=fun w ρ dst ty pos after guard=>N8 w ρ dst ty pos after guard 212 (A8 (z8 32)) C7v
@[go_sem ↓ high] theorem D9j:RB' 212:=BX' _
end
theorem D1t (k v:List UInt8) (hk:k.length=32) (hv:v.length=32) (w:World):(Instr.build 216 #[(0,A8 k),(1,A8 v)]).run Tryz.prog w=.ok (A8 (pb (k,v))) w:=by
 have hz:(A8 (z8 64)).cells.toList=c8 (z8 64):=rfl;have hl:(c8 (z8 64)).length=64:=by simp
 have h1:=Q8 B6b D0j w (D0p w) #[(0,A8 k),(1,A8 v)] [(0,c8 k),(32,c8 v)] (by
  rw[hz,hl];exact ⟨by simp[hk],rfl,by simp[hk],by simp[hv],rfl,by simp[hv],trivial⟩)
 refine h1.trans (congrArg (fun (cs:List Value)=>Result.ok (Value.agg cs.toArray) w) ?_);rw[hz];simp[Gl,Y7,hk,hv,List.take_append,List.drop_append,List.drop_eq_nil_of_le,List.take_of_length_le,pb,c8]
@[go_sem ↓ high] theorem E0s (w : World) (ρ : Operand → Value) (dst : Option Tmp) (ty : TypeId) (pos : String) (after : Array Edge) (guard : Option (Nat × Bool)) (x y : Operand) :
 (execOp ρ { dst,op:=.build 216 #[(0,x),(1,y)],type:=ty,pos,after,guard }).run Tryz.prog w=A9l w (O9 Tryz.prog ρ { dst,op:=.build 216 #[(0,x),(1,y)],type:=ty,pos,after,guard } w) (ρ x) (ρ y):=by
 generalize hx:ρ x=a;generalize hy:ρ y=b;unfold A9l;split
 ·rename_i k v h1 h2
  replace h1:=U3 h1;replace h2:=U3 h2;split
  ·rename_i h
   refine U1 w ρ dst ty pos after guard _ _ _ ?_;simp only[List.map_toArray,List.map_cons,List.map_nil,hx,hy,h1,h2];exact D1t k v h.1 h.2 w
  ·rfl
 ·rfl
noncomputable def C2k (w:World) (raw:Result Next) (k:Value):Result Next:=
 match Bs k with
 | some k=>if k.length=32 then .ok (.value (A8 k)) w else raw
 | _=>raw
@[go_sem] theorem E6h (w : World) (raw : Result Next) (k : List UInt8) (hk : k.length = 32) : C2k w raw (A8 k) = .ok (.value (A8 k)) w := by
 unfold C2k;rw[X7];simp[hk]
theorem B7j (k:List UInt8) (hk:k.length=32) (w:World):(Instr.build 212 #[(0,A8 k)]).run Tryz.prog w=.ok (A8 k) w:=by
 have hz:(A8 (z8 32)).cells.toList=c8 (z8 32):=rfl;have hl:(c8 (z8 32)).length=32:=by simp
 have h1:=Q8 C7p C7v w (D0o w) #[(0,A8 k)] [(0,c8 k)] (by
  rw[hz,hl];exact ⟨by simp[hk],rfl,by simp[hk],trivial⟩)
 refine h1.trans (congrArg (fun (cs:List Value)=>Result.ok (Value.agg cs.toArray) w) ?_);rw[hz];simp[Gl,Y7,hk,List.take_append,List.drop_append,List.drop_eq_nil_of_le,List.take_of_length_le,c8]
@[go_sem ↓ high] theorem D5o (w : World) (ρ : Operand → Value) (dst : Option Tmp) (ty : TypeId) (pos : String) (after : Array Edge) (guard : Option (Nat × Bool)) (x : Operand) :
 (execOp ρ { dst,op:=.build 212 #[(0,x)],type:=ty,pos,after,guard }).run Tryz.prog w=C2k w (O9 Tryz.prog ρ { dst,op:=.build 212 #[(0,x)],type:=ty,pos,after,guard } w) (ρ x):=by
 generalize hx:ρ x=a;unfold C2k;split
 ·rename_i k h1
  replace h1:=U3 h1;split
  ·rename_i h
   refine U1 w ρ dst ty pos after guard _ _ _ ?_;simp only[List.map_toArray,List.map_cons,List.map_nil,hx,h1];exact B7j k h w
  ·rfl
 ·rfl
inductive Pt | e | lf (k v : List UInt8) | nd (l r : Pt) | hd (h : List UInt8)
def Pt.val:Pt→Value
 | .e=>.nilIface
 | .lf k v=>.iface 216 (A8 (pb (k,v)))
 | .nd l r=>.iface 222 (.agg #[l.val,r.val])
 | .hd h=>.iface 212 (A8 h)
theorem Pt.one:∀p:Pt,p.val.oneCell'=true
 | .e=>rfl
 | .lf _ _=>rfl
 | .nd _ _=>rfl
 | .hd _=>rfl
@[go_sem ↓ high] theorem Pt.cells_val : ∀ p : Pt, p.val.cells = #[p.val]
 | .e=>rfl
 | .lf _ _=>rfl
 | .nd _ _=>rfl
 | .hd _=>rfl
@[go_sem] theorem D3x {P : Program} {w : World} {a : Addr} {m : Mode} (p : Pt) : (store a p.val m).run P w = stored P w a p.val m := run_store P w a _ m p.one
def Pt.root:Pt→List UInt8
 | .e=>z8 32
 | .lf k v=>Jt ([0]++k++v)
 | .nd l r=>Jt ([1]++l.root++r.root)
 | .hd h=>h
def Pt.Wf:Pt→Prop
 | .e=>True
 | .lf k v=>k.length=32∧v.length=32
 | .nd l r=>l.Wf∧r.Wf
 | .hd h=>h.length=32
theorem Pt.root_length:∀ {p:Pt},p.Wf→p.root.length=32
 | .e,_=>by simp[Pt.root]
 | .lf k v,_=>by simp[Pt.root,Db]
 | .nd l r,_=>by simp[Pt.root,Db]
 | .hd h,hw=>hw
@[go_sem] theorem E1q (n : Nat) (v : Value) (w : World) : (method (n + 1) 216 v "witan/witness.root").run Tryz.prog w = .ok (230, v) w := by kernel_rfl
@[go_sem] theorem D8h (n : Nat) (v : Value) (w : World) : (method (n + 1) 212 v "witan/witness.root").run Tryz.prog w = .ok (229, v) w := by kernel_rfl
@[go_sem] theorem D9e (n : Nat) (v : Value) (w : World) : (method (n + 1) 222 v "witan/witness.root").run Tryz.prog w = .ok (231, v) w := by kernel_rfl
@[go_sem] theorem A8p (v : Value) (w : World) : (Instr.typeAssert (.iface 216 v) 93 216 true).run Tryz.prog w = .ok (.tuple #[v, .bool true]) w := by kernel_rfl
@[go_sem] theorem A4m (v : Value) (w : World) : (Instr.typeAssert (.iface 222 v) 93 216 true).run Tryz.prog w = .ok (.tuple #[A8 (z8 64), .bool false]) w := by kernel_rfl
@[go_sem] theorem A4b (v : Value) (w : World) : (Instr.typeAssert (.iface 212 v) 93 216 true).run Tryz.prog w = .ok (.tuple #[A8 (z8 64), .bool false]) w := by kernel_rfl
@[go_sem] theorem B0z (w : World) : (Instr.typeAssert .nilIface 93 216 true).run Tryz.prog w = .ok (.tuple #[A8 (z8 64), .bool false]) w := by kernel_rfl
@[go_sem] theorem D3d (v : Value) (w : World) : (Instr.typeAssert (.iface 216 v) 93 222 true).run Tryz.prog w = .ok (.tuple #[.agg #[.nilIface, .nilIface], .bool false]) w := by kernel_rfl
@[go_sem] theorem C7j (v : Value) (w : World) : (Instr.typeAssert (.iface 222 v) 93 222 true).run Tryz.prog w = .ok (.tuple #[v, .bool true]) w := by kernel_rfl
@[go_sem] theorem C6e (v : Value) (w : World) : (Instr.typeAssert (.iface 212 v) 93 222 true).run Tryz.prog w = .ok (.tuple #[.agg #[.nilIface, .nilIface], .bool false]) w := by kernel_rfl
@[go_sem] theorem D3l (w : World) : (Instr.typeAssert .nilIface 93 222 true).run Tryz.prog w = .ok (.tuple #[.agg #[.nilIface, .nilIface], .bool false]) w := by kernel_rfl
@[go_sem] theorem C9h (v : Value) (w : World) : (Instr.typeAssert (.iface 216 v) 93 212 true).run Tryz.prog w = .ok (.tuple #[A8 (z8 32), .bool false]) w := by kernel_rfl
@[go_sem] theorem C6g (v : Value) (w : World) : (Instr.typeAssert (.iface 222 v) 93 212 true).run Tryz.prog w = .ok (.tuple #[A8 (z8 32), .bool false]) w := by kernel_rfl
@[go_sem] theorem C5z (v : Value) (w : World) : (Instr.typeAssert (.iface 212 v) 93 212 true).run Tryz.prog w = .ok (.tuple #[v, .bool true]) w := by kernel_rfl
@[go_sem] theorem D3e (w : World) : (Instr.typeAssert .nilIface 93 212 true).run Tryz.prog w = .ok (.tuple #[A8 (z8 32), .bool false]) w := by kernel_rfl
def E4o (qs:List Nat) (i1 i2 i3 i4 i5 i6:Nat) (W0:World) (fr:Value→Value→Value→Value→Act) (rl rr:List UInt8) (listed:Array Bool) (ac:Act) (w:World):Prop:=
 (∀j∈qs,listed.getD j false=true)∧Le W0 fr rl rr (listed.getD i1 false) (listed.getD i2 false) (listed.getD i3 false) (listed.getD i4 false) (listed.getD i5 false) (listed.getD i6 false) ac w
theorem Hn {qs:List Nat} {i1 i2 i3 i4 i5 i6:Nat} {W0:World} {fr:Value→Value→Value→Value→Act} {rl rr:List UInt8} {listed:Array Bool} {i:Nat} {ac:Act} {w:World} (hi:i<listed.size) (hq:∀j∈qs,listed.getD j false=true)
 (h:Le W0 fr rl rr (if i1=i then true else listed.getD i1 false) (if i2=i then true else listed.getD i2 false) (if i3=i then true else listed.getD i3 false) (if i4=i then true else listed.getD i4 false) (if i5=i then true else listed.getD i5 false) (if i6=i then true else listed.getD i6 false) ac w):E4o qs i1 i2 i3 i4 i5 i6 W0 fr rl rr (listed.setIfInBounds i true) ac w:=by
 refine ⟨fun j hj=>?_,?_⟩
 ·rw[A5n hi];split
  ·rfl
  ·exact hq j hj
 ·simp only[A5n hi];exact h
theorem B5e (h:List UInt8) (hh:h.length=32) (w:World):Calls Tryz.prog 229 #[A8 h] w fun e w'=>e=.returned (A8 (Pt.hd h).root)∧Below w.heap.size w w':=by
 obtain⟨w0,aA⟩:=D9 ((w.alloc (Obj.cells (c8 h).toArray 212)).alloc (Obj.cells (c8 (z8 32)).toArray 40));have B0:Below w.heap.size w w0:=by rw[aA];exact (U7 _ _).alloc (by simp) _
 have R0:Bk w0 (w.heap.size+1) 40 (c8 (z8 32)):=by rw[aA];simpa using Bk.new (w.alloc (Obj.cells (c8 h).toArray 212)) 40 (c8 (z8 32))
 go_enter Tryz.func229,Tryz.ntmps229;go_wp2_with fail;rw[←aA];exact bodyPost_ret (C7 rfl _ _ _ _ _ _ rfl (R0.puts (vs:=c8 h) (by simp[hh])) Tryz.underlying40 rfl (by simp[H9,hh])) rfl ⟨rfl,C0 B0 (by simp) _⟩
theorem C3j (k v:List UInt8) (hk:k.length=32) (hv:v.length=32) (w:World):Calls Tryz.prog 230 #[A8 (pb (k,v))] w fun e w'=>e=.returned (A8 (Pt.lf k v).root)∧Below w.heap.size w w':=by
 have hl:(pb (k,v)).length=64:=Si.len ⟨hk,hv⟩;have aA:Jt [[0],k,v].flatten=(Pt.lf k v).root:=by simp[Pt.root]
 have aB:=Lib.hid aA;have aF:=Pt.root_length (p:=.lf k v) ⟨hk,hv⟩;generalize (Pt.lf k v).root=rt at *;clear aA;go_enter Tryz.func230,Tryz.ntmps230;go_wp2_with fail;obtain⟨W0,aC⟩:=D9 ((w.alloc (Obj.cells (c8 (pb (k,v))).toArray 216)).alloc (Obj.cells (c8 (z8 32)).toArray 40));rw[←aC];have aH:Bk W0 w.heap.size 216 (c8 (pb (k,v))):=by rw[aC];exact (Bk.new w _ _).alloc _
 have aG:Bk W0 (w.heap.size+1) 40 (c8 (z8 32)):=by rw[aC];simpa using Bk.new (w.alloc (Obj.cells (c8 (pb (k,v))).toArray 216)) 40 (c8 (z8 32))
 have B0:Below w.heap.size w W0:=by rw[aC];exact (U7 _ _).alloc (by simp) _
 clear aC;have S0:=Nq W0;have z0:w.heap.size+1≤W0.heap.size:=by have:=aG.lt;omega
 refine Ij (fun W=>Below (w.heap.size+1) W0 W) ?_;refine Cn (A:=?A1) [1,2,3,4] (S0.mono z0) (fun W hW=>?h1) ?r1;case h1=>
  exact Fa
 case r1=>
  refine Q6 0 fun Q' hQ'=>?_;dsimp only[C6];go_wp2_with fail;obtain⟨W1,aD⟩:=D9 ((W0.alloc (Obj.cells #[.int .u8 0] 5)).drew);rw[←aD];have S1:Below W0.heap.size W0 W1:=by rw[aD];exact (U7 _ _).drew
  have y0:By W1 0 W1.heap.size (.slice (some ⟨W0.heap.size,0,none⟩) 1 1) [0]:=by rw[aD];exact (By.build W0 5 (0,0) [0] (by simp)).more (by simp)
  refine hQ' _ _ (S1.mono z0) ?_;clear hQ' aD;refine Q6 5 fun Q' hQ'=>?_;dsimp only[C6];go_wp2_with fail;obtain⟨W2,aE⟩:=D9 (W1.alloc (Obj.cells #[.slice (some ⟨W0.heap.size,0,none⟩) 1 1,.slice (some ⟨w.heap.size,0,none⟩) 32 32,.slice (some ⟨w.heap.size,32,none⟩) 32 32] 38));rw[←aE];have P1:=aH.bl S1;have yk:By W1 0 W1.heap.size (.slice (some ⟨w.heap.size,0,none⟩) 32 32) k:=By.of_row (Hv P1 ⟨hk,hv⟩) P1.lt (by omega);have yv:By W1 0 W1.heap.size (.slice (some ⟨w.heap.size,32,none⟩) 32 32) v:=By.of_row (A1g P1 ⟨hk,hv⟩) P1.lt (by omega);have p2:M6 W2 W2.heap.size (.slice (some ⟨W1.heap.size,0,none⟩) 3 3) [[0],k,v]:=by
   rw[aE];have:=M6.three W1 38 _ _ _ _ _ _ y0 yk yv;simpa using this
  have S2:Below W0.heap.size W0 W2:=by rw[aE];exact S1.alloc S1.size _
  refine hQ' _ _ (S2.mono z0) ?_;clear hQ' aE;refine Q6 6 fun Q' hQ'=>?_;dsimp only[C6];go_wp2_with fail;refine (Jb _ [[0],k,v] W2 p2 (by simp[hk,hv])).mono ?_;rintro e W3 ⟨rfl,h3⟩;rw[aB.out];have S3:=X4 S2 h3;go_wp2_with fail;refine hQ' _ _ (S3.mono z0) ?_;clear hQ';have R3:=aG.bl S3;have aI:=Nn 32 R3 (by simp);refine Q6 7 fun Q' hQ'=>?_;dsimp only[C6];go_wp2_with fail;refine hQ' _ _ (C0 (S3.mono z0) (by simp) _) ?_;clear hQ';refine Gn ?_;go_wp2_with fail;exact bodyPost_ret (C7 rfl _ _ _ _ _ _ rfl (R3.puts (vs:=c8 rt) (by simp[aF])) Tryz.underlying40 rfl (by simp[H9,aF])) rfl ⟨rfl,C0 (C3 B0 S3 B0.size) (by simp) _⟩
theorem B7v (l r:Pt) (hl:l.Wf) (hr:r.Wf) (IHl:∀w,Calls Tryz.prog 85 #[l.val] w fun e w'=>e=.returned (A8 l.root)∧Below w.heap.size w w') (IHr:∀w,Calls Tryz.prog 85 #[r.val] w fun e w'=>e=.returned (A8 r.root)∧Below w.heap.size w w') (w:World) :
 Calls Tryz.prog 231 #[.agg #[l.val,r.val]] w fun e w'=>e=.returned (A8 (Pt.nd l r).root)∧Below w.heap.size w w':=by
 have aE:Jt [[1],l.root,r.root].flatten=(Pt.nd l r).root:=by simp[Pt.root]
 have aH:=Lib.hid aE;have aQ:=Pt.root_length (p:=.nd l r) ⟨hl,hr⟩;have aO:=Pt.root_length hl;have aP:=Pt.root_length hr;generalize (Pt.nd l r).root=rt at *;generalize l.root=rl at *;generalize r.root=rr at *;clear aE;go_enter Tryz.func231,Tryz.ntmps231;go_wp2_with fail;obtain⟨W0,aI⟩:=D9 ((w.alloc (Obj.cells #[l.val,r.val] 222)).alloc (Obj.cells (c8 (z8 32)).toArray 40));rw[←aI];have aR:Bk W0 w.heap.size 222 [l.val,r.val]:=by rw[aI];exact (Bk.new w _ [l.val,r.val]).alloc _
 have aW:Bk W0 (w.heap.size+1) 40 (c8 (z8 32)):=by rw[aI];simpa using Bk.new (w.alloc (Obj.cells #[l.val,r.val] 222)) 40 (c8 (z8 32))
 have B0:Below w.heap.size w W0:=by rw[aI];exact (U7 _ _).alloc (by simp) _
 clear aI;generalize l.val=vl at *;generalize r.val=vr at *;have S0:=Nq W0;refine Ij (fun W=>Below W0.heap.size W0 W) ?_;refine Cn (A:=?A1) [0,1,3,4] S0 (fun W hW=>?h1) ?r1;case h1=>
  have P1:=aR.bl hW;have c0:W.cell? ⟨w.heap.size,0,none⟩=some vl:=P1.at_ rfl;have c1:W.cell? ⟨w.heap.size,1,none⟩=some vr:=P1.at_ rfl;exact Fa
 case r1=>
  refine B3q (E4o [0,1,3,4] 2 5 6 7 8 9 W0 (fun s3 s4 s7 aK=>⟨(.agg #[vl,vr] :: .pointer (some ⟨w.heap.size,0,none⟩) :: .pointer (some ⟨w.heap.size+1,0,none⟩)::s3::s4 :: .pointer (some ⟨w.heap.size,0,none⟩)::vl::s7 :: .pointer (some ⟨w.heap.size,1,none⟩)::vr::aK::undef::undef::undef::undef::undef::[]).toArray,[]⟩) rl rr) (by kernel_rfl) (fun _ _ _ h=>by obtain⟨_,_,_,_,_,_,h,_⟩:=h;exact h) ?aF ?aJ (by kernel_rfl) ?aG;case aG=>exact ⟨by decide,_,_,_,_,rfl,S0,fun h=>absurd h (by decide),fun h=>absurd h (by decide),fun h=>absurd h (by decide),fun h=>absurd h (by decide),fun h=>absurd h (by decide),fun h=>absurd h (by decide),fun h=>absurd h (by decide)⟩
  case aF=>
   intro aA ac w i o hI aS hi aT aL K hK;obtain⟨aC,s3,s4,s7,aK,rfl,B,F1,F3,F4,F5,F6,F7⟩:=hI;have aZ:i<10:=by simpa using (List.getElem?_eq_some_iff.1 hi).1
   have aS:aA.size=10:=by simpa using aS
   have aX:i=2∨i=5∨i=6∨i=7∨i=8∨i=9:=by apply Classical.byContradiction;intro hn;exact A2w aT (aC i (by simp;omega))
   have aD:aA.getD i false=false:=by
    cases h:aA.getD i false with
    | false=>rfl
    | true=>exact (A2w aT h).elim
   rcases aX with rfl | rfl | rfl | rfl | rfl | rfl
   ·cases hi;refine Xb (by rfl) rfl (fun Q' hQ'=>?_);go_wp2_with fail;refine (IHl w).mono ?_;rintro e w' ⟨rfl,hb⟩;go_wp2_with fail;refine Hn (by omega) aC ?_;exact Le.call1 (s3:=s7) (b1:=false) B F3 F4 F5 F6 F7 hb
   ·cases hi;refine Xb (by rfl) rfl (fun Q' hQ'=>?_);go_wp2_with fail;refine (IHr w).mono ?_;rintro e w' ⟨rfl,hb⟩;go_wp2_with fail;refine Hn (by omega) aC ?_;exact Le.call3 (s4:=aK) (b3:=false) B F1 F4 F5 F6 F7 hb
   ·cases hi;refine Xb (by rfl) rfl (fun Q' hQ'=>?_);go_wp2_with fail;refine Hn (by omega) aC ?_;rw[aD]at F7;exact Le.alloc4 (s1:=s3) B F1 F3 F5 F7
   ·cases hi;refine Xb (by rfl) rfl (fun Q' hQ'=>?_);go_wp2_with fail;refine Hn (by omega) aC ?_;rw[aD]at F7;exact Le.alloc5 (s2:=s4) B F1 F3 F4 F7
   ·cases hi;have b1:=aL ⟨2,.data⟩ (by simp) rfl;have b4:=aL ⟨6,.data⟩ (by simp) rfl;obtain⟨ga,rfl,aU,Ka⟩:=F4 b4;obtain rfl:=F1 b1;rw[aD]at Ka;simp only[Bool.false_eq_true,if_false]at Ka;have bA:=Nn 32 Ka (by simp);refine Xb (by rfl) rfl (fun Q' hQ'=>?_);go_wp2_with fail;refine Hn (by omega) aC ?_;rw[b4]at F6 ⊢;exact Le.store6 (x:=z8 32) (b6:=false) B aU Ka (by simp[aO]) (fun _=>rfl) F3 F5 (F6 rfl) F7.2
   ·cases hi;have b3:=aL ⟨5,.data⟩ (by simp) rfl;have b5:=aL ⟨7,.data⟩ (by simp) rfl;obtain⟨gb,rfl,aV,Kb⟩:=F5 b5;obtain rfl:=F3 b3;rw[aD]at Kb;simp only[Bool.false_eq_true,if_false]at Kb;have bB:=Nn 32 Kb (by simp);refine Xb (by rfl) rfl (fun Q' hQ'=>?_);go_wp2_with fail;refine Hn (by omega) aC ?_;rw[b5]at F6 ⊢;exact Le.store7 (x:=z8 32) (b7:=false) B aV Kb (by simp[aP]) F1 (fun _=>rfl) F4 (fun h=>F6 h rfl) F7.1
  case aJ=>
   intro aA ac W hI aB;obtain⟨aC,s3,s4,s7,aK,rfl,B,F1,F3,F4,F5,F6,F7⟩:=hI;obtain⟨ga,rfl,aU,Ka⟩:=F4 (aB 6 (by simp));obtain⟨gb,rfl,aV,Kb⟩:=F5 (aB 7 (by simp));rw[aB 8 (by simp)]at Ka;rw[aB 9 (by simp)]at Kb;obtain rfl:=F1 (aB 2 (by simp));obtain rfl:=F3 (aB 5 (by simp));simp only[if_true]at Ka Kb;have R6:=aW.bl B;have B6:=X4 B0 B;have bC:=Ka.lt;have bD:=Kb.lt;clear F1 F3 F4 F5 F6 F7 aC aB S0 aR;go_wp2_with fail;have T0:=Nq W;have z0:w.heap.size+1≤W.heap.size:=by have:=R6.lt;omega
   refine Ij (fun V=>Below (w.heap.size+1) W V) ?_;refine Cn (A:=?A2) [1,2] (T0.mono z0) (fun V hV=>?h2) ?r2;case h2=>
    exact Fa
   case r2=>
    refine Q6 0 fun Q' hQ'=>?_;dsimp only[C6];go_wp2_with fail;obtain⟨W1,aM⟩:=D9 ((W.alloc (Obj.cells #[.int .u8 1] 5)).drew);rw[←aM];have S1:Below W.heap.size W W1:=by rw[aM];exact (U7 _ _).drew
    have y0:By W1 0 W1.heap.size (.slice (some ⟨W.heap.size,0,none⟩) 1 1) [1]:=by rw[aM];exact (By.build W 5 (0,0) [1] (by simp)).more (by simp)
    refine hQ' _ _ (S1.mono z0) ?_;clear hQ' aM;refine Q6 3 fun Q' hQ'=>?_;dsimp only[C6];go_wp2_with fail;obtain⟨W2,aN⟩:=D9 (W1.alloc (Obj.cells #[.slice (some ⟨W.heap.size,0,none⟩) 1 1,.slice (some ⟨ga,0,none⟩) 32 32,.slice (some ⟨gb,0,none⟩) 32 32] 38));rw[←aN];have yk:=(Ka.bl S1).whole 32 aO (by have:=S1.size;omega);have yv:=(Kb.bl S1).whole 32 aP (by have:=S1.size;omega);have p2:M6 W2 W2.heap.size (.slice (some ⟨W1.heap.size,0,none⟩) 3 3) [[1],rl,rr]:=by
     rw[aN];have:=M6.three W1 38 _ _ _ _ _ _ y0 yk yv;simpa using this
    have S2:Below W.heap.size W W2:=by rw[aN];exact S1.alloc S1.size _
    refine hQ' _ _ (S2.mono z0) ?_;clear hQ' aN;refine Q6 4 fun Q' hQ'=>?_;dsimp only[C6];go_wp2_with fail;refine (Jb _ [[1],rl,rr] W2 p2 (by simp[aO,aP])).mono ?_;rintro e W3 ⟨rfl,h3⟩;rw[aH.out];have S3:=X4 S2 h3;go_wp2_with fail;refine hQ' _ _ (S3.mono z0) ?_;clear hQ';have R3:=R6.bl S3;have aY:=Nn 32 R3 (by simp);refine Q6 5 fun Q' hQ'=>?_;dsimp only[C6];go_wp2_with fail;refine hQ' _ _ (C0 (S3.mono z0) (by simp) _) ?_;clear hQ';refine Gn ?_;go_wp2_with fail;exact bodyPost_ret (C7 rfl _ _ _ _ _ _ rfl (R3.puts (vs:=c8 rt) (by simp[aQ])) Tryz.underlying40 rfl (by simp[H9,aQ])) rfl ⟨rfl,C0 (C3 B6 S3 B6.size) (by simp) _⟩
theorem Xf:∀(p:Pt),p.Wf→∀w:World,Calls Tryz.prog 85 #[p.val] w fun e w'=>e=.returned (A8 p.root)∧Below w.heap.size w w'
 | .e,_,w=>by
  dsimp only[Pt.val,Pt.root];go_enter Tryz.func85,Tryz.ntmps85;go_wp2_with fail;have R0:Bk (w.alloc (Obj.cells (c8 (z8 32)).toArray 40)) w.heap.size 40 (c8 (z8 32)):=Bk.new w _ _;exact bodyPost_ret (C7 rfl _ _ _ _ _ _ rfl (R0.puts (vs:=c8 (z8 32)) (by simp)) Tryz.underlying40 rfl (by simp[H9])) rfl ⟨rfl,C0 (U7 _ _) (Nat.le_refl _) _⟩
 | .lf k v,hw,w=>by
  dsimp only[Pt.val];have aA:=Pt.root_length hw;have R0:Bk (w.alloc (Obj.cells (c8 (z8 32)).toArray 40)) w.heap.size 40 (c8 (z8 32)):=Bk.new w _ _;go_enter Tryz.func85,Tryz.ntmps85;go_wp2_with fail;refine (C3j k v hw.1 hw.2 _).mono ?_;rintro e w1 ⟨rfl,h1⟩;have R1:=R0.bl h1;have aB:=Nn 32 R1 (by simp);have B1:Below w.heap.size w w1:=(U7 _ _).trans (h1.mono (by simp));go_wp2_with fail;exact bodyPost_ret (C7 rfl _ _ _ _ _ _ rfl (R1.puts (vs:=c8 (Pt.lf k v).root) (by simp[aA])) Tryz.underlying40 rfl (by simp[H9,aA])) rfl ⟨rfl,C0 B1 (by simp) _⟩
 | .hd h,hw,w=>by
  dsimp only[Pt.val];have aA:=Pt.root_length (p:=.hd h) hw;have R0:Bk (w.alloc (Obj.cells (c8 (z8 32)).toArray 40)) w.heap.size 40 (c8 (z8 32)):=Bk.new w _ _;go_enter Tryz.func85,Tryz.ntmps85;go_wp2_with fail;refine (B5e h hw _).mono ?_;rintro e w1 ⟨rfl,h1⟩;have R1:=R0.bl h1;have aB:=Nn 32 R1 (by simp);have B1:Below w.heap.size w w1:=(U7 _ _).trans (h1.mono (by simp));go_wp2_with fail;exact bodyPost_ret (C7 rfl _ _ _ _ _ _ rfl (R1.puts (vs:=c8 (Pt.hd h).root) (by simp[aA])) Tryz.underlying40 rfl (by simp[H9,aA])) rfl ⟨rfl,C0 B1 (by simp) _⟩
 | .nd l r,hw,w=>by
  have aC:=Xf l hw.1;have aD:=Xf r hw.2;dsimp only[Pt.val];have aA:=Pt.root_length (p:=.nd l r) hw;have R0:Bk (w.alloc (Obj.cells (c8 (z8 32)).toArray 40)) w.heap.size 40 (c8 (z8 32)):=Bk.new w _ _;go_enter Tryz.func85,Tryz.ntmps85;go_wp2_with fail;refine (B7v l r hw.1 hw.2 aC aD _).mono ?_;rintro e w1 ⟨rfl,h1⟩;have R1:=R0.bl h1;have aB:=Nn 32 R1 (by simp);have B1:Below w.heap.size w w1:=(U7 _ _).trans (h1.mono (by simp));go_wp2_with fail;exact bodyPost_ret (C7 rfl _ _ _ _ _ _ rfl (R1.puts (vs:=c8 (Pt.nd l r).root) (by simp[aA])) Tryz.underlying40 rfl (by simp[H9,aA])) rfl ⟨rfl,C0 B1 (by simp) _⟩
end
def Pt.bytes:Pt→List UInt8
 | .e=>[0]
 | .lf k v=>[1]++k++v
 | .nd l r=>[2]++l.bytes++r.bytes
 | .hd h=>[3]++h
def Qu (w w':World) (v u:Value):Prop:=w.grownBy w' v.ownBlock∧(u.ownBlock=v.ownBlock∨∃g,u.ownBlock=some g∧w.heap.size≤g)
theorem Qu.refl (w:World) (v:Value):Qu w w v v:=⟨⟨rfl,rfl,rfl,Nat.le_refl _,fun _ _ _=>rfl⟩,.inl rfl⟩
theorem Qu.trans {a b c:World} {u v x:Value} (h:Qu a b u v) (k:Qu b c v x):Qu a c u x:=by
 obtain⟨h1,h2⟩:=h;obtain⟨k1,k2⟩:=k;refine ⟨⟨k1.os.trans h1.os,k1.tape.trans h1.tape,k1.output.trans h1.output,Nat.le_trans h1.size k1.size,fun i hi hne=>?_⟩,?_⟩
 ·refine (k1.block i (Nat.lt_of_lt_of_le hi h1.size) ?_).trans (h1.block i hi hne);rcases h2 with h2 | ⟨g,h2,h3⟩
  ·rw[h2];exact hne
  ·rw[h2];intro e;injection e with e;omega
 ·rcases k2 with k2 | ⟨g,k2,k3⟩
  ·rcases h2 with h2 | ⟨g,h2,h3⟩
   ·exact .inl (k2.trans h2)
   ·exact .inr ⟨g,k2.trans h2,h3⟩
  ·exact .inr ⟨g,k2,Nat.le_trans h1.size k3⟩
theorem Qu.more {a b c:World} {u v:Value} (h:Qu a b u v) (hb:Below b.heap.size b c):Qu a c u v:=by
 obtain⟨h1,h2⟩:=h;refine ⟨⟨hb.os.trans h1.os,hb.tape.trans h1.tape,hb.output.trans h1.output,Nat.le_trans h1.size hb.size,fun i hi hne=>?_⟩,h2⟩;exact (hb.block i (Nat.lt_of_lt_of_le hi h1.size)).trans (h1.block i hi hne)
theorem Qu.bk {a b:World} {u v:Value} {g:Nat} {t:TypeId} {cs:List Value} (h:Qu a b u v) (hk:Bk a g t cs) (hne:u.ownBlock≠some g):Bk b g t cs∧v.ownBlock≠some g:=by
 refine ⟨hk.grown h.1 (fun e=>hne e.symm),?_⟩;have:=hk.lt;rcases h.2 with h2 | ⟨g',h2,h3⟩
 ·rw[h2];exact hne
 ·rw[h2];intro e;injection e with e;omega
theorem Qu.below {a b:World} {u v:Value} {base:Nat} {l:List UInt8} (h:Qu a b u v) (ho:J0 a base u l) (hb:base≤a.heap.size):Below base a b:=
 (Below.refl _ _).grown h.1 hb (fun k hk=>(World.ownsRow.lt ho k hk).1)
theorem B8j (k v:List UInt8) (hk:k.length=32) (hv:v.length=32) (b:Value) (l:List UInt8) (base:Nat) (w:World) (hb:J0 w base b l) (hbs:base≤w.heap.size) (hsz:l.length≤1099511627776) :
 Calls Tryz.prog 74 #[b,(Pt.lf k v).val] w fun e w'=>∃u,e=.returned u∧J0 w' base u (l++(Pt.lf k v).bytes)∧Qu w w' b u:=by
 have aE:(pb (k,v)).length=64:=Si.len ⟨hk,hv⟩;have aB:∀g,b.ownBlock=some g→g<w.heap.size:=fun g hg=>(World.ownsRow.lt hb g hg).2;obtain⟨W0,aC⟩:=D9 (C2 (w.alloc (Obj.cells (c8 (z8 64)).toArray 216)) ⟨w.heap.size,0,none⟩ (c8 (pb (k,v))));have K0:Bk W0 w.heap.size 216 (c8 (pb (k,v))):=by rw[aC];exact Bk.fresh w _ (by simp[aE])
 have B0:Below w.heap.size w W0:=by rw[aC];exact C0 (U7 _ _) (Nat.le_refl _) _
 have O0:J0 W0 base b l:=hb.below B0 (Nat.le_refl _);have G0:Qu w W0 b b:=(Qu.refl _ _).more B0;have N0:b.ownBlock≠some w.heap.size:=fun e=>by have:=aB _ e;omega
 have z0:=B0.size;have aA:((l++[1])++k)++v=l++(Pt.lf k v).bytes:=by simp[Pt.bytes]
 rw[←aA];clear aA;dsimp only[Pt.val];go_enter Tryz.func74,Tryz.ntmps74;go_wp2_with fail;rw[←aC];clear aC hb;have S0:base≤W0.drew.heap.size:=by have:W0.drew.heap.size=W0.heap.size:=rfl;omega
 refine Ij (fun W=>base≤W.heap.size) ?_;refine Cn (A:=?A1) [0,3,4,6,7] S0 (fun W hW=>?h1) ?r1;case h1=>
  exact Fa
 case r1=>
  refine Q6 1 fun Q' hQ'=>?_;dsimp only[C6];go_wp2_with fail;obtain⟨W1,aD⟩:=D9 ((W0.alloc (Obj.cells #[.int .u8 1] 5)).drew);rw[←aD];have b1:Below W0.heap.size W0 W1:=by rw[aD];exact (U7 _ _).drew
  have y0:By W1 0 W1.heap.size (.slice (some ⟨W0.heap.size,0,none⟩) 1 1) [1]:=by rw[aD];exact (By.build W0 5 (0,0) [1] (by simp)).more (by simp)
  have z1:=b1.size;have O1:=O0.below b1 (Nat.le_refl _);have G1:=G0.more b1;have K1:=K0.bl b1;refine hQ' _ _ (by omega) ?_;clear hQ' aD;refine Q6 2 fun Q' hQ'=>?_;dsimp only[C6];refine Vm _ base _ _ rfl _ _ rfl rfl O1 _ rfl [1] 0 _ y0 (by simp;omega) (by omega) ?_;intro A2 c2 W2 aF aG O2 _ aH aI;obtain⟨u2,aR⟩:=D9 (Value.slice A2 (l++[1]).length c2);rw[←aR]at O2 aI ⊢;clear aR aF aG;have g2:Qu W1 W2 b u2:=⟨aH,aI.imp id fun e=>⟨_,e,Nat.le_refl _⟩⟩;have G2:=G1.trans g2;obtain⟨K2,N2⟩:=g2.bk K1 N0;have z2:=aH.size;go_wp2_with fail;refine hQ' _ _ (by omega) ?_;clear hQ' aH aI;have yk:By W2 0 W2.heap.size (.slice (some ⟨w.heap.size,0,none⟩) 32 32) k:=By.of_row (Hv K2 ⟨hk,hv⟩) K2.lt (by omega);refine Q6 5 fun Q' hQ'=>?_;dsimp only[C6];refine Vm _ base _ _ rfl _ _ rfl rfl O2 _ rfl k 0 _ yk (by simp;omega) (by omega) ?_;intro A3 c3 W3 aJ aK O3 _ aL aM;obtain⟨u3,aS⟩:=D9 (Value.slice A3 ((l++[1])++k).length c3);rw[←aS]at O3 aM ⊢;clear aS aJ aK;have g3:Qu W2 W3 u2 u3:=⟨aL,aM.imp id fun e=>⟨_,e,Nat.le_refl _⟩⟩;have G3:=G2.trans g3;obtain⟨K3,N3⟩:=g3.bk K2 N2;have z3:=aL.size;go_wp2_with fail;refine hQ' _ _ (by omega) ?_;clear hQ' aL aM;have yv:By W3 0 W3.heap.size (.slice (some ⟨w.heap.size,32,none⟩) 32 32) v:=By.of_row (A1g K3 ⟨hk,hv⟩) K3.lt (by omega);refine Q6 8 fun Q' hQ'=>?_;dsimp only[C6];refine Vm _ base _ _ rfl _ _ rfl rfl O3 _ rfl v 0 _ yv (by simp;omega) (by omega) ?_;intro A4 c4 W4 aN aO O4 _ aP aQ
  obtain⟨u4,aT⟩:=D9 (Value.slice A4 (((l++[1])++k)++v).length c4);rw[←aT]at O4 aQ ⊢;clear aT aN aO;have g4:Qu W3 W4 u3 u4:=⟨aP,aQ.imp id fun e=>⟨_,e,Nat.le_refl _⟩⟩;have G4:=G3.trans g4;have z4:=aP.size;go_wp2_with fail;refine hQ' _ _ (by omega) ?_;clear hQ' aP aQ;refine Q6 9 fun Q' hQ'=>?_;dsimp only[C6];go_wp2_with fail;refine hQ' _ _ (by omega) ?_;clear hQ';refine Gn ?_;go_wp2_with fail;go_ret;exact ⟨_,rfl,O4,G4⟩
theorem C5r (b:Value) (l:List UInt8) (base:Nat) (w:World) (hb:J0 w base b l) (hbs:base≤w.heap.size) (hsz:l.length≤1099511627776) :
 Calls Tryz.prog 74 #[b,Pt.e.val] w fun e w'=>∃u,e=.returned u∧J0 w' base u (l++Pt.e.bytes)∧Qu w w' b u:=by
 have y0:By (w.alloc (Obj.cells #[.int .u8 0] 5)) 0 (w.heap.size+1) (.slice (some ⟨w.heap.size,0,none⟩) 1 1) [0]:=By.build w 5 (0,0) [0] (by simp);have O1:J0 (w.alloc (Obj.cells #[.int .u8 0] 5)) base b l:=hb.alloc _;have G1:Qu w (w.alloc (Obj.cells #[.int .u8 0] 5)) b b:=(Qu.refl _ _).more (U7 _ _);dsimp only[Pt.val,Pt.bytes];go_enter Tryz.func74,Tryz.ntmps74;go_wp2_with (at_builtin;refine Vm _ base _ _ rfl _ _ rfl rfl O1 _ rfl [0] 0 _ y0 (by simp;omega) (by simp;omega) ?_;intro A2 c2 W2 aA aB O2 _ aE aC;obtain⟨u2,aD⟩:∃u,u=Value.slice A2 (l++[0]).length c2:=⟨_,rfl⟩;rw[←aD]at O2 aC ⊢;clear aD aA aB);go_ret;exact ⟨_,rfl,O2,G1.trans ⟨aE,aC.imp id fun e=>⟨_,e,Nat.le_refl _⟩⟩⟩
theorem A9p (h:List UInt8) (hh:h.length=32) (b:Value) (l:List UInt8) (base:Nat) (w:World) (hb:J0 w base b l) (hbs:base≤w.heap.size) (hsz:l.length≤1099511627776) :
 Calls Tryz.prog 74 #[b,(Pt.hd h).val] w fun e w'=>∃u,e=.returned u∧J0 w' base u (l++(Pt.hd h).bytes)∧Qu w w' b u:=by
 have aB:∀g,b.ownBlock=some g→g<w.heap.size:=fun g hg=>(World.ownsRow.lt hb g hg).2;obtain⟨W0,aC⟩:=D9 (C2 (w.alloc (Obj.cells (c8 (z8 32)).toArray 212)) ⟨w.heap.size,0,none⟩ (c8 h));have K0:Bk W0 w.heap.size 212 (c8 h):=by rw[aC];exact Bk.fresh w _ (by simp[hh])
 have B0:Below w.heap.size w W0:=by rw[aC];exact C0 (U7 _ _) (Nat.le_refl _) _
 have O0:J0 W0 base b l:=hb.below B0 (Nat.le_refl _);have G0:Qu w W0 b b:=(Qu.refl _ _).more B0;have N0:b.ownBlock≠some w.heap.size:=fun e=>by have:=aB _ e;omega
 have z0:=B0.size;have aA:(l++[3])++h=l++(Pt.hd h).bytes:=by simp[Pt.bytes]
 rw[←aA];clear aA;dsimp only[Pt.val];go_enter Tryz.func74,Tryz.ntmps74;go_wp2_with fail;rw[←aC];clear aC hb;have S0:base≤W0.drew.heap.size:=by have:W0.drew.heap.size=W0.heap.size:=rfl;omega
 refine Ij (fun W=>base≤W.heap.size) ?_;refine Cn (A:=?A1) [0,3,4] S0 (fun W hW=>?h1) ?r1;case h1=>
  exact Fa
 case r1=>
  refine Q6 1 fun Q' hQ'=>?_;dsimp only[C6];go_wp2_with fail;obtain⟨W1,aD⟩:=D9 ((W0.alloc (Obj.cells #[.int .u8 3] 5)).drew);rw[←aD];have b1:Below W0.heap.size W0 W1:=by rw[aD];exact (U7 _ _).drew
  have y0:By W1 0 W1.heap.size (.slice (some ⟨W0.heap.size,0,none⟩) 1 1) [3]:=by rw[aD];exact (By.build W0 5 (0,0) [3] (by simp)).more (by simp)
  have z1:=b1.size;have O1:=O0.below b1 (Nat.le_refl _);have G1:=G0.more b1;have K1:=K0.bl b1;refine hQ' _ _ (by omega) ?_;clear hQ' aD;refine Q6 2 fun Q' hQ'=>?_;dsimp only[C6];refine Vm _ base _ _ rfl _ _ rfl rfl O1 _ rfl [3] 0 _ y0 (by simp;omega) (by omega) ?_;intro A2 c2 W2 aE aF O2 _ aG aH;obtain⟨u2,aM⟩:=D9 (Value.slice A2 (l++[3]).length c2);rw[←aM]at O2 aH ⊢;clear aM aE aF;have g2:Qu W1 W2 b u2:=⟨aG,aH.imp id fun e=>⟨_,e,Nat.le_refl _⟩⟩;have G2:=G1.trans g2;obtain⟨K2,N2⟩:=g2.bk K1 N0;have z2:=aG.size;go_wp2_with fail;refine hQ' _ _ (by omega) ?_;clear hQ' aG aH;have yk:By W2 0 W2.heap.size (.slice (some ⟨w.heap.size,0,none⟩) 32 32) h:=By.of_row (by have:=K2.rows;rwa [C1,hh]at this) K2.lt (by omega);refine Q6 5 fun Q' hQ'=>?_;dsimp only[C6];refine Vm _ base _ _ rfl _ _ rfl rfl O2 _ rfl h 0 _ yk (by simp;omega) (by omega) ?_;intro A3 c3 W3 aI aJ O3 _ aK aL;obtain⟨u3,aN⟩:=D9 (Value.slice A3 ((l++[3])++h).length c3);rw[←aN]at O3 aL ⊢;clear aN aI aJ;have g3:Qu W2 W3 u2 u3:=⟨aK,aL.imp id fun e=>⟨_,e,Nat.le_refl _⟩⟩;have G3:=G2.trans g3;have z3:=aK.size;go_wp2_with fail;refine hQ' _ _ (by omega) ?_;clear hQ' aK aL;refine Q6 6 fun Q' hQ'=>?_;dsimp only[C6];go_wp2_with fail;refine hQ' _ _ (by omega) ?_;clear hQ';refine Gn ?_;go_wp2_with fail;go_ret;exact ⟨_,rfl,O3,G3⟩
theorem B1u (p q:Pt) (b:Value) (l:List UInt8) (base:Nat) (w:World) (hb:J0 w base b l) (hbs:base≤w.heap.size) (hsz:l.length+(Pt.nd p q).bytes.length≤1099511627776)
 (IHp:∀(b:Value) (l:List UInt8) (w:World),J0 w base b l→base≤w.heap.size→l.length+p.bytes.length≤1099511627776→Calls Tryz.prog 74 #[b,p.val] w fun e w'=>∃u,e=.returned u∧J0 w' base u (l++p.bytes)∧Qu w w' b u)
 (IHq:∀(b:Value) (l:List UInt8) (w:World),J0 w base b l→base≤w.heap.size→l.length+q.bytes.length≤1099511627776→Calls Tryz.prog 74 #[b,q.val] w fun e w'=>∃u,e=.returned u∧J0 w' base u (l++q.bytes)∧Qu w w' b u) :
 Calls Tryz.prog 74 #[b,(Pt.nd p q).val] w fun e w'=>∃u,e=.returned u∧J0 w' base u (l++(Pt.nd p q).bytes)∧Qu w w' b u:=by
 have aB:∀g,b.ownBlock=some g→g<w.heap.size:=fun g hg=>(World.ownsRow.lt hb g hg).2;have aA:((l++[2])++p.bytes)++q.bytes=l++(Pt.nd p q).bytes:=by simp[Pt.bytes]
 have aC:(Pt.nd p q).bytes.length=1+p.bytes.length+q.bytes.length:=by simp[Pt.bytes];omega
 rw[←aA];rw[aC]at hsz;clear aA aC;dsimp only[Pt.val];generalize p.bytes=pb1 at *;generalize q.bytes=qb1 at *;go_enter Tryz.func74,Tryz.ntmps74;go_wp2_with fail;obtain⟨W0,aD⟩:=D9 (w.alloc (Obj.cells #[p.val,q.val] 222));rw[←aD];have K0:Bk W0 w.heap.size 222 [p.val,q.val]:=by rw[aD];exact Bk.new w _ [p.val,q.val]
 have B0:=BA' aD;have O0:J0 W0 base b l:=hb.below B0 (Nat.le_refl _);have G0:Qu w W0 b b:=(Qu.refl _ _).more B0;have N0:b.ownBlock≠some w.heap.size:=fun e=>by have:=aB _ e;omega
 have z0:=B0.size;clear aD hb;have S0:base≤W0.drew.heap.size∧Bk W0.drew w.heap.size 222 [p.val,q.val]:=⟨by have:W0.drew.heap.size=W0.heap.size:=rfl;omega,K0.drew⟩;refine Ij (fun W=>base≤W.heap.size∧Bk W w.heap.size 222 [p.val,q.val]) ?_;refine Cn (A:=?A1) [0,3,4,6,7] S0 (fun W hW=>?h1) ?r1;case h1=>have c0:W.cell? ⟨w.heap.size,0,none⟩=some p.val:=hW.2.at_ rfl;have c1:W.cell? ⟨w.heap.size,1,none⟩=some q.val:=hW.2.at_ rfl;exact Fa
 case r1=>
  refine Q6 1 fun Q' hQ'=>?_;dsimp only[C6];go_wp2_with fail;obtain⟨W1,aE⟩:=D9 ((W0.alloc (Obj.cells #[.int .u8 2] 5)).drew);rw[←aE];have b1:Below W0.heap.size W0 W1:=by rw[aE];exact (U7 _ _).drew
  have y0:By W1 0 W1.heap.size (.slice (some ⟨W0.heap.size,0,none⟩) 1 1) [2]:=by rw[aE];exact (By.build W0 5 (0,0) [2] (by simp)).more (by simp)
  have z1:=b1.size;have O1:=O0.below b1 (Nat.le_refl _);have G1:=G0.more b1;have K1:=K0.bl b1;refine hQ' _ _ ⟨by omega,K1⟩ ?_;clear hQ' aE;refine Q6 2 fun Q' hQ'=>?_;dsimp only[C6];refine Vm _ base _ _ rfl _ _ rfl rfl O1 _ rfl [2] 0 _ y0 (by simp;omega) (by omega) ?_;intro A2 c2 W2 aF aG O2 _ aH aI;obtain⟨u2,aJ⟩:=D9 (Value.slice A2 (l++[2]).length c2);rw[←aJ]at O2 aI ⊢;clear aJ aF aG;have g2:Qu W1 W2 b u2:=⟨aH,aI.imp id fun e=>⟨_,e,Nat.le_refl _⟩⟩;have G2:=G1.trans g2;obtain⟨K2,N2⟩:=g2.bk K1 N0;have z2:=aH.size;go_wp2_with fail;refine hQ' _ _ ⟨by omega,K2⟩ ?_;clear hQ' aH aI;refine Q6 5 fun Q' hQ'=>?_;dsimp only[C6];go_wp2_with fail;refine (IHp u2 (l++[2]) W2 O2 (by omega) (by simp;omega)).mono ?_;rintro e W3 ⟨u3,rfl,O3,g3⟩;have G3:=G2.trans g3;obtain⟨K3,N3⟩:=g3.bk K2 N2;have z3:=g3.1.size;go_wp2_with fail;refine hQ' _ _ ⟨by omega,K3⟩ ?_;clear hQ';refine Q6 8 fun Q' hQ'=>?_;dsimp only[C6];go_wp2_with fail;refine (IHq u3 ((l++[2])++pb1) W3 O3 (by omega) (by simp;omega)).mono ?_;rintro e W4 ⟨u4,rfl,O4,g4⟩;have G4:=G3.trans g4;obtain⟨K4,N4⟩:=g4.bk K3 N3;have z4:=g4.1.size;go_wp2_with fail;refine hQ' _ _ ⟨by omega,K4⟩ ?_;clear hQ';refine Q6 9 fun Q' hQ'=>?_;dsimp only[C6];go_wp2_with fail;refine hQ' _ _ ⟨by omega,K4⟩ ?_;clear hQ';refine Gn ?_;go_wp2_with fail;go_ret;exact ⟨_,rfl,O4,G4⟩
theorem Xu:∀(p:Pt),p.Wf→∀(base:Nat) (b:Value) (l:List UInt8) (w:World),J0 w base b l→base≤w.heap.size→l.length+p.bytes.length≤1099511627776→
 Calls Tryz.prog 74 #[b,p.val] w fun e w'=>∃u,e=.returned u∧J0 w' base u (l++p.bytes)∧Qu w w' b u
 | .e,_,base,b,l,w,hb,hbs,hsz=>C5r b l base w hb hbs (by omega)
 | .lf k v,hw,base,b,l,w,hb,hbs,hsz=>B8j k v hw.1 hw.2 b l base w hb hbs (by omega)
 | .hd h,hw,base,b,l,w,hb,hbs,hsz=>A9p h hw b l base w hb hbs (by omega)
 | .nd p q,hw,base,b,l,w,hb,hbs,hsz=>B1u p q b l base w hb hbs hsz (Xu p hw.1 base) (Xu q hw.2 base)
theorem B7e (p:Pt) (hw:p.Wf) (hsz:p.bytes.length≤1099511627776) (w:World) :
 Calls Tryz.prog 36 #[.agg #[p.val]] w fun e w'=>∃u,e=.returned u∧J0 w' w.heap.size u p.bytes∧Below w.heap.size w w':=by
 obtain⟨W0,aA⟩:=D9 (w.alloc (Obj.cells #[p.val] 95));have B0:=BA' aA;go_enter Tryz.func36,Tryz.ntmps36;go_wp2_with fail;rw[←aA];refine (Xu p hw w.heap.size (.slice none 0 0) [] W0 (J0.nil _ _) B0.size (by simpa using hsz)).mono ?_;rintro e w1 ⟨u,rfl,ho,hg⟩;have hb:Below w.heap.size W0 w1:=hg.below (J0.nil _ _) B0.size;clear aA;go_wp2_with fail;go_ret;exact ⟨u,rfl,by simpa using ho,B0.trans hb⟩
theorem A1u (p:Pt) (hw:p.Wf) (w:World) :
 Calls Tryz.prog 40 #[.agg #[p.val]] w fun e w'=>e=.returned (A8 p.root)∧Below w.heap.size w w':=by
 have aB:=Pt.root_length hw;obtain⟨W0,aA⟩:=D9 ((w.alloc (Obj.cells #[p.val] 95)).alloc (Obj.cells (c8 (z8 32)).toArray 40));have R0:Bk W0 (w.heap.size+1) 40 (c8 (z8 32)):=by rw[aA];simpa using Bk.new (w.alloc (Obj.cells #[p.val] 95)) 40 (c8 (z8 32))
 have B0:Below w.heap.size w W0:=by rw[aA];exact (U7 _ _).alloc (by simp) _
 go_enter Tryz.func40,Tryz.ntmps40;go_wp2_with fail;rw[←aA];refine (Xf p hw W0).mono ?_;rintro e w1 ⟨rfl,h1⟩;have R1:=R0.bl h1;have aC:=Nn 32 R1 (by simp);have B1:=X4 B0 h1;clear aA;go_wp2_with fail;exact bodyPost_ret (C7 rfl _ _ _ _ _ _ rfl (R1.puts (vs:=c8 p.root) (by simp[aB])) Tryz.underlying40 rfl (by simp[H9,aB])) rfl ⟨rfl,C0 B1 (by simp) _⟩
theorem C7e (y:UInt8):(n8 (y &&& 1)==1)=(y &&& 1==1):=by
 have h:∀z:UInt8,(n8 z==1)=(z==1):=fun z=>by
  unfold n8;rw[Bool.eq_iff_iff,beq_iff_eq,beq_iff_eq,←UInt8.toNat_inj];have:(1:UInt8).toNat=1:=rfl;omega
 exact h _
theorem Ej (k:List UInt8) (n:Nat) (hk:k.length=32) (hn:n<256) (w:World) :
 Calls Tryz.prog 127 #[A8 k,.int .i64 (n:Int)] w fun e w'=>e=.returned (.bool (E3 k n))∧Below w.heap.size w w':=by
 have hc:(w.alloc (.cells (c8 k).toArray 40)).cell? ⟨w.heap.size,n / 8,none⟩=some (.int .u8 (n8 (g8 k (n / 8)))):=(Bk.new w _ _).at_ (Nh (by omega));have hb:Hid (E3 k n=((g8 k (n / 8) >>> UInt8.ofNat (7-n % 8)) &&& 1==1)):=Lib.hid rfl;generalize g8 k (n / 8)=x at *;have h1:(n:Int) / 8=((n / 8:Nat):Int):=by omega
 have hq:n / 8<32:=by omega
 have h2:(n:Int) % 8=((n % 8:Nat):Int):=by omega
 have hr:n % 8<8:=by omega
 generalize hnq:n / 8=q at *;generalize hnr:n % 8=r at *;clear hnq hnr;have aA:r=0∨r=1∨r=2∨r=3∨r=4∨r=5∨r=6∨r=7:=by omega
 rcases aA with rfl | rfl | rfl | rfl | rfl | rfl | rfl | rfl;all_goals
  go_enter Tryz.func127,Tryz.ntmps127;go_wp2;go_ret;refine ⟨?_,U7 _ _⟩;rw[hb.out];first | exact congrArg (fun b=>Ending.returned (.bool b)) (C0o _) | exact congrArg (fun b=>Ending.returned (.bool b)) (C7e _)
def Pt.Dp:Nat→Pt→Prop
 | d,.nd l r=>d<256∧l.Dp (d+1)∧r.Dp (d+1)
 | _,_=>True
def Pt.get (k:List UInt8):Nat→Pt→List UInt8×Bool×Nat
 | _,.e=>(z8 32,false,0)
 | _,.lf k' v=>if k'=k then (v,true,0) else (z8 32,false,0)
 | _,.hd _=>(z8 32,false,100)
 | d,.nd l r=>if E3 k d then r.get k (d+1) else l.get k (d+1)
theorem Pt.get_length {k:List UInt8}:∀ {p:Pt} {d:Nat},p.Wf→(p.get k d).1.length=32
 | .e,_,_=>by simp[Pt.get]
 | .lf k' v,_,h=>by simp only[Pt.get];split<;>simp[h.2]
 | .hd _,_,_=>by simp[Pt.get]
 | .nd l r,d,h=>by by_cases hb:E3 k d=true<;>simp only[Pt.get,hb,if_true,if_false,Bool.false_eq_true]<;>first | exact Pt.get_length h.2 | exact Pt.get_length h.1
def D7b (x:List UInt8×Bool×Nat):Value:=.tuple #[A8 x.1,.bool x.2.1,.int .i64 (x.2.2:Int)]
theorem C6h (k:List UInt8) (hk:k.length=32) (p:Pt) (hw:p.Wf) (hd:p.Dp 0) (w:World) :
 Calls Tryz.prog 86 #[.agg #[p.val],A8 k] w fun e w'=>e=.returned (D7b (p.get k 0))∧Below w.heap.size w w':=by
 go_enter Tryz.func86,Tryz.ntmps86;go_wp2_with fail;obtain⟨W0,aE⟩:=D9 (((w.alloc (Obj.cells #[p.val] 95)).alloc (Obj.cells (c8 k).toArray 40)).alloc (Obj.cells (c8 (z8 32)).toArray 40));rw[←aE];have B0:Below w.heap.size w W0:=by rw[aE];exact ((U7 _ _).alloc (by simp) _).alloc (by simp;omega) _
 have K0:Bk W0 (w.heap.size+1) 40 (c8 k):=by rw[aE];exact (by simpa using Bk.new (w.alloc (Obj.cells #[p.val] 95)) 40 (c8 k):Bk _ _ _ _).alloc _
 have R0:Bk W0 (w.heap.size+1+1) 40 (c8 (z8 32)):=by rw[aE];simpa using Bk.new ((w.alloc (Obj.cells #[p.val] 95)).alloc (Obj.cells (c8 k).toArray 40)) 40 (c8 (z8 32))
 clear aE;have z0:=R0.lt;go_loopw [7,8] (fun n d wr=>∃(q:Pt) (i:Nat),n=q.val∧d=.int .i64 (i:Int)∧i≤256∧q.Wf∧q.Dp i∧p.get k 0=q.get k i∧Below W0.heap.size W0 wr) (fun _ d _=>257-(intOf d).toNat)
 case atStart=>exact ⟨p,0,rfl,rfl,by omega,hw,hd,rfl,Below.refl _ _⟩
 case round=>
  clear hw hd;obtain⟨q,i,rfl,rfl,hi,hw,hd,aF,Br⟩:=hrel;have aA:=Lib.hid aF;clear aF;have Kr:=K0.below Br (by omega);have Rr:=R0.below Br z0;have BB:=X4 B0 Br;have aL:C4 wr ⟨w.heap.size+1,0,none⟩ 32=some (c8 k):=by have:=Kr.rows;rwa [C1,hk]at this
  have aJ:=Nn 32 Rr (by simp);cases q with
  | e=>
   dsimp only[Pt.val];go_wp2_with fail;refine bodyPost_ret (H8 rfl (C5.row (Rr.puts (vs:=c8 (z8 32)) (by simp)) rfl _ Tryz.underlying40 rfl (by simp[H9])) (C5.tmp rfl) (C5.tmp rfl)) rfl ⟨?_,C0 BB (by simp;omega) _⟩;rw[aA.out];rfl
  | hd h=>
   have aM:h.length=32:=hw;obtain⟨W,hW⟩:=D9 (C2 (wr.alloc (Obj.cells (c8 (z8 32)).toArray 212)) ⟨wr.heap.size,0,none⟩ (c8 h));have aC:Below wr.heap.size wr W:=by rw[hW];exact C0 (U7 _ _) (Nat.le_refl _) _
   have R1:=Rr.bl aC;have B1:=X4 BB aC;have aB:=Nn 32 R1 (by simp);rw[hW]at aB;dsimp only[Pt.val];go_wp2_with fail;rw[←hW];refine bodyPost_ret (H8 rfl (C5.row (R1.puts (vs:=c8 (z8 32)) (by simp)) rfl _ Tryz.underlying40 rfl (by simp[H9])) (C5.tmp rfl) (C5.tmp rfl)) rfl ⟨?_,C0 B1 (by simp;omega) _⟩;rw[aA.out];rfl
  | lf k' v=>
   have aG:k'.length=32:=hw.1;have hv:v.length=32:=hw.2;have aH:(pb (k',v)).length=64:=Si.len ⟨aG,hv⟩;obtain⟨W,hW⟩:=D9 (C2 (wr.alloc (Obj.cells (c8 (z8 64)).toArray 216)) ⟨wr.heap.size,0,none⟩ (c8 (pb (k',v))));have aC:Below wr.heap.size wr W:=by rw[hW];exact C0 (U7 _ _) (Nat.le_refl _) _
   have P1:Bk W wr.heap.size 216 (c8 (pb (k',v))):=by rw[hW];exact Bk.fresh wr _ (by simp[aH])
   have R1:=Rr.bl aC;have K1:=Kr.bl aC;have B1:=X4 BB aC;have aB:=Nn 32 R1 (by simp);have rk:=Hv P1 ⟨aG,hv⟩;have rv:=A1g P1 ⟨aG,hv⟩;have aD:C4 W ⟨w.heap.size+1,0,none⟩ 32=some (c8 k):=by have:=K1.rows;rwa [C1,hk]at this
   rw[hW]at aB rk rv aD;dsimp only[Pt.val];by_cases e:k'=k
   ·subst e;have aK:(k'==k')=true:=by simp
    go_wp2_with fail;rw[←hW];refine bodyPost_ret (H8 rfl (C5.row (R1.puts (vs:=c8 v) (by simp[hv])) rfl _ Tryz.underlying40 rfl (by simp[H9,hv])) (C5.tmp rfl) (C5.tmp rfl)) rfl ⟨?_,C0 B1 (by simp;omega) _⟩;rw[aA.out];simp only[Pt.get,if_true];rfl
   ·have aK:(k'==k)=false:=by simp[e]
    go_wp2_with fail;rw[←hW];refine bodyPost_ret (H8 rfl (C5.row (R1.puts (vs:=c8 (z8 32)) (by simp)) rfl _ Tryz.underlying40 rfl (by simp[H9])) (C5.tmp rfl) (C5.tmp rfl)) rfl ⟨?_,C0 B1 (by simp;omega) _⟩;rw[aA.out];simp only[Pt.get,if_neg e];rfl
  | nd l r=>
   obtain⟨W,hW⟩:=D9 (wr.alloc (Obj.cells #[l.val,r.val] 222));have aC:=BA' hW;have P1:Bk W wr.heap.size 222 [l.val,r.val]:=by rw[hW];exact Bk.new wr _ [l.val,r.val]
   have K1:=Kr.bl aC;have aD:C4 W ⟨w.heap.size+1,0,none⟩ 32=some (c8 k):=by have:=K1.rows;rwa [C1,hk]at this
   have c0:W.cell? ⟨wr.heap.size,0,none⟩=some l.val:=P1.at_ rfl;have c1:W.cell? ⟨wr.heap.size,1,none⟩=some r.val:=P1.at_ rfl;rw[hW]at aD c0 c1;dsimp only[Pt.val];go_wp2_with fail;rw[←hW];clear c0 c1 aD;refine (Ej k i hk hd.1 W).mono ?_;rintro e W2 ⟨rfl,h2⟩;have P2:=P1.bl h2;have aI:=(Br.trans (aC.mono Br.size)).trans (h2.mono (by have:=Br.size;have:=aC.size;omega));have c1:W2.cell? ⟨wr.heap.size,1,none⟩=some r.val:=P2.at_ rfl;have aN:=hd.1;cases hbit:E3 k i
   ·go_wp2_with fail;go_roundw;case rel=>exact ⟨l,i+1,rfl,by go_num,by omega,hw.1,hd.2.1,by rw[aA.out];simp only[Pt.get,hbit];rfl,aI⟩
    case measure=>simp[intOf];omega
   ·go_wp2_with fail;go_roundw;case rel=>exact ⟨r,i+1,rfl,by go_num,by omega,hw.2,hd.2.2,by rw[aA.out];simp only[Pt.get,hbit];rfl,aI⟩
    case measure=>simp[intOf];omega
end Go.Proofs.YtmllnpokbbabhaaGreat
