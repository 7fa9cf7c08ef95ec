/- A part of the proof of DirOrder. -/
import Derived.Test.YtlegpkdighoflaaGreatQbc
set_option linter.unusedVariables false
set_option linter.unusedSimpArgs false
set_option maxRecDepth 100000
set_option maxHeartbeats 40000000
namespace Go.Proofs.YtlegpkdighoflaaGreat
open Go Go.RowKit Sh
section
abbrev En := List UInt8 × List (List UInt8)
def lookE:List En→List UInt8→List (List UInt8)
 | [],_=>[]
 | q::L,x=>if q.1=x then q.2 else lookE L x
def pairsE (L:List En):List Pr:=L.map fun q=>(q.1,Dq q.2)
noncomputable def Em (id key:List UInt8) (L:List En):List En:=(L.filter fun q=>Gb q.1 id)++[(id,lookE L id++[key])]++(L.filter fun q=>Gb id q.1)
structure OkE (L : List En) : Prop where
 id:∀q∈L,q.1.length=32
 one:∀q∈L,0<q.2.length
 key:∀q∈L,∀k∈q.2,k.length=32
 rise:L.Pairwise fun x y=>klt x.1 y.1
theorem OkE.nil:OkE []:=⟨by simp,by simp,by simp,List.Pairwise.nil⟩
theorem Gc:∀ {L:List En},L.Pairwise (fun x y=>klt x.1 y.1)→∀q∈L,lookE L q.1=q.2
 | [],_,q,h=>by cases h
 | p::L,hp,q,h=>by
  rw[List.pairwise_cons]at hp;unfold lookE;rcases List.mem_cons.1 h with rfl | h
  ·rw[if_pos rfl]
  ·rw[if_neg (hp.1 q h).ne];exact Gc hp.2 q h
theorem Jg:∀ {L:List En} {x:List UInt8},(∀q∈L,q.1≠x)→lookE L x=[]
 | [],_,_=>rfl
 | p::L,x,h=>by
  unfold lookE;rw[if_neg (h p (by simp))];exact Jg fun q hq=>h q (by simp[hq])
theorem B1h {L:List En} (hk:∀q∈L,∀k∈q.2,k.length=32) (x:List UInt8):∀k∈lookE L x,k.length=32:=by
 induction L with
 | nil=>intro k h;cases h
 | cons p L ih=>
  unfold lookE;split
  ·exact hk p (by simp)
  ·exact ih fun q hq=>hk q (by simp[hq])
section
variable {L : List En} {id key : List UInt8}
theorem Ja (ok:OkE L) (hid:id.length=32) (q:En):q∈Em id key L↔q=(id,lookE L id++[key])∨(q∈L∧q.1≠id):=by
 unfold Em;simp only[List.mem_append,List.mem_filter,List.mem_singleton];constructor
 ·rintro ((⟨h1,h2⟩ | rfl) | ⟨h1,h2⟩)
  ·exact .inr ⟨h1,(X4.1 h2).ne⟩
  ·exact .inl rfl
  ·exact .inr ⟨h1,fun e=>(X4.1 h2).ne e.symm⟩
 ·rintro (rfl | ⟨h1,h2⟩)
  ·exact .inl (.inr rfl)
  ·rcases klt.total (ok.id q h1) hid h2 with h3 | h3
   ·exact .inl (.inl ⟨h1,X4.2 h3⟩)
   ·exact .inr ⟨h1,X4.2 h3⟩
theorem OkE.with (ok:OkE L) (hid:id.length=32) (hkey:key.length=32):OkE (Em id key L):=by
 refine ⟨fun q hq=>?_,fun q hq=>?_,fun q hq=>?_,?_⟩
 ·rcases (Ja ok hid q).1 hq with rfl | h
  ·exact hid
  ·exact ok.id q h.1
 ·rcases (Ja ok hid q).1 hq with rfl | h
  ·simp
  ·exact ok.one q h.1
 ·rcases (Ja ok hid q).1 hq with rfl | h
  ·intro k hk;rcases List.mem_append.1 hk with hk | hk
   ·exact B1h ok.key id k hk
   ·simp at hk;subst hk;exact hkey
  ·exact ok.key q h.1
 ·unfold Em;rw[List.pairwise_append,List.pairwise_append];refine ⟨⟨ok.rise.sublist List.filter_sublist,List.pairwise_singleton _ _,?_⟩,ok.rise.sublist List.filter_sublist,?_⟩
  ·intro a ha b hb;simp only[List.mem_singleton]at hb;subst hb;exact X4.1 (List.mem_filter.1 ha).2
  ·intro a ha b hb;have h2:=X4.1 (List.mem_filter.1 hb).2;rcases List.mem_append.1 ha with ha | ha
   ·exact (X4.1 (List.mem_filter.1 ha).2).trans h2
   ·simp only[List.mem_singleton]at ha;subst ha;exact h2
theorem Gw (ok:OkE L) (hid:id.length=32) (hkey:key.length=32) (x:List UInt8):lookE (Em id key L) x=if x=id then lookE L id++[key] else lookE L x:=by
 have aA:=ok.with (id:=id) (key:=key) hid hkey;by_cases e:x=id
 ·subst e;rw[if_pos rfl];exact Gc aA.rise _ ((Ja ok hid _).2 (.inl rfl))
 ·rw[if_neg e];by_cases h:∃q∈L,q.1=x
  ·obtain⟨q,hq,rfl⟩:=h;rw[Gc ok.rise q hq];exact Gc aA.rise q ((Ja ok hid _).2 (.inr ⟨hq,e⟩))
  ·have h':∀q∈L,q.1≠x:=fun q hq he=>h ⟨q,hq,he⟩;rw[Jg h'];refine Jg fun q hq=>?_;rcases (Ja ok hid q).1 hq with rfl | h2
   ·exact fun he=>e he.symm
   ·exact h' q h2.1
theorem A7k:pairsE (Em id key L)=A4s id (Dq (lookE L id++[key])) (pairsE L):=by
 unfold pairsE Em A4s;rw[List.map_append,List.map_append,List.filter_map,List.filter_map];rfl
theorem Ec:(pairsE L).length=L.length:=by simp[pairsE]
theorem A4u {t:Tr} (okt:Okt t) (ok:OkE L) (hp:t.pairs=pairsE L) (x:List UInt8):t.look x 0=if (lookE L x).length=0 then none else some (Dq (lookE L x)):=by
 by_cases h:∃q∈L,q.1=x
 ·obtain⟨q,hq,rfl⟩:=h;rw[Gc ok.rise q hq,if_neg (Nat.ne_of_gt (ok.one q hq)),Zq okt,hp];exact List.mem_map.2 ⟨q,hq,rfl⟩
 ·have h':∀q∈L,q.1≠x:=fun q hq he=>h ⟨q,hq,he⟩;rw[Jg h',if_pos (show ([]:List (List UInt8)).length=0 from rfl)];cases hl:t.look x 0 with
  | none=>rfl
  | some v=>
   exfalso;rw[Zq okt,hp]at hl;obtain⟨q,hq,e⟩:=List.mem_map.1 hl;injection e with e1 e2;exact h' q hq e1
theorem Tu {t:Tr} (okt:Okt t) (hp:t.pairs=pairsE L) (hid:id.length=32):Okt (Xu t id (Dq (lookE L id++[key])))∧(Xu t id (Dq (lookE L id++[key]))).pairs=pairsE (Em id key L):=by
 refine ⟨okt.put hid (Gj _),?_⟩;rw[A7k,←hp];exact (B1i hid (Gj _) okt).symm
theorem A3z {t:Tr} (okt:Okt t) (hp:t.pairs=pairsE L) (hid:id.length=32):(Em id key L).length≤L.length+1:=by
 have h:=B4p (v:=Dq (lookE L id++[key])) okt hid;have h2:=(Tu (key:=key) okt hp hid).2;rw[Tr.len_pairs,h2,Ec,Tr.len_pairs,hp,Ec]at h;exact h
end
noncomputable def Ig (L:List En) (u:UV):List En:=if Ii (lookE L u.id) u then Em u.id u.key L else L
noncomputable def applyE (us:List UV) (L:List En):List En:=us.foldl Ig L
theorem Lw {ks:List (List UInt8)} {u:UV}:Ju ks u=0↔Ii ks u=true:=by
 unfold Ju Ii;cases h:U8 u
 ·simp
 ·by_cases h2:u.ver=(ks.length:Int)+1<;>simp[h2]
theorem Zm {ks:List (List UInt8)} {u:UV} (h:Ii ks u=true):Kf ks u=ks++[u.key]:=if_pos h
end
section
structure Sv where
 a:Option Addr
 n:Nat
 c:Nat
def Sv.v (s:Sv):Value:=.slice s.a s.n s.c
structure Rw where
 id:List UInt8
 s:Sv
def Rw.cells (r:Rw):List Value:=c8 r.id++[r.s.v]
def Rw.V (r:Rw):Value:=.agg r.cells.toArray
def rwz:Rw:=⟨z8 32,⟨none,0,0⟩⟩
theorem A3t:(Tryz.prog.info? 44).map (·.size)=some 33:=by kernel_rfl
theorem A3h:((Tryz.prog.info? 44).bind (·.zero))=some rwz.V:=by kernel_rfl
theorem D1b:(Tryz.prog.info? 44).map (fun i=>(i.zero,i.size,i.bytes))=some (some rwz.V,33,56):=by kernel_rfl
theorem Yb:Tryz.prog.underlying 44=some (.struct (U1 Tryz.prog 44)):=by kernel_rfl
theorem A8c (w:World):(Ep (U1 Tryz.prog 44)).run Tryz.prog w=.ok #[(0,32),(32,1)] w:=by kernel_rfl
@[go_sem] theorem E1p (r : Rw) : Value.agg r.cells.toArray = r.V := rfl
section
variable (w : World) (ρ : Operand → Value) (dst : Option Tmp) (ty : TypeId) (pos : String) (after : Array Edge) (guard : Option (Nat × Bool))
@[go_sem ↓ high] theorem D5p:RL' 44 33:=LL' Yb A3t
@[go_sem ↓ high] theorem D0i:RS' 44 33:=SS' A3t
@[go_sem ↓ high] theorem C8q:RA' 44 rwz.cells.toArray:=fun w ρ dst ty pos after guard=>Q0 w ρ dst ty pos after guard 44 rwz.V A3h
end
noncomputable def D4s (w:World) (raw:Result Next) (a b:Value):Result Next:=match Cj a,b with
 | some i,.slice A n c=>if i.length=32 then .ok (.value (Rw.V ⟨i,⟨A,n,c⟩⟩)) w else raw
 | _,_=>raw
theorem C7o (i:List UInt8) (hi:i.length=32) (A:Option Addr) (n c:Nat) (w:World):(Instr.build 44 #[(0,A8 i),(1,.slice A n c)]).run Tryz.prog w=.ok (Rw.V ⟨i,⟨A,n,c⟩⟩) w:=by
 have aA:rwz.V.cells.toList=c8 (z8 32)++[.slice none 0 0]:=rfl;have h1:=U5 Yb A3h w (A8c w) #[(0,A8 i),(1,.slice A n c)] [(0,c8 i),(32,[.slice A n c])] (by
  rw[aA];exact ⟨by simp[hi],rfl,by simp[hi],by simp,rfl,by simp,trivial⟩)
 refine h1.trans (congrArg (fun (cs:List Value)=>Result.ok (Value.agg cs.toArray) w) ?_);rw[aA];simp[Fs,Af,hi,List.take_append,List.drop_append,List.drop_eq_nil_of_le,List.take_of_length_le,Rw.cells,Sv.v,c8]
@[go_sem ↓ high] theorem C8k (w : World) (ρ : Operand → Value) (dst : Option Tmp) (ty : TypeId) (pos : String) (after : Array Edge) (guard : Option (Nat × Bool)) (x y : Operand) :
 (execOp ρ { dst,op:=.build 44 #[(0,x),(1,y)],type:=ty,pos,after,guard }).run Tryz.prog w=D4s w (N8 Tryz.prog ρ { dst,op:=.build 44 #[(0,x),(1,y)],type:=ty,pos,after,guard } w) (ρ x) (ρ y):=by
 generalize h0:ρ x=a;generalize h1:ρ y=b;unfold D4s;split
 ·rename_i i A n c g0
  replace g0:=U7 g0;split
  ·rename_i h
   refine P5 w ρ dst ty pos after guard _ _ _ ?_;simp only[List.map_toArray,List.map_cons,List.map_nil,h0,h1,g0];exact C7o i h A n c w
  ·rfl
 ·rfl
@[go_sem ↓ high] theorem D9b (w : World) (ρ : Operand → Value) (dst : Option Tmp) (ty : TypeId) (pos : String) (after : Array Edge) (guard : Option (Nat × Bool)) (x : Operand) :
 (execOp ρ { dst,op:=.buildSlice 35 1 #[(0,x)],type:=ty,pos,after,guard }).run Tryz.prog w=Le 33 44 w (N8 Tryz.prog ρ { dst,op:=.buildSlice 35 1 #[(0,x)],type:=ty,pos,after,guard } w) (ρ x):=
 Ug w ρ dst ty pos after guard 35 44 33 56 rwz.V x Tryz.underlying35 D1b (by simp[Rw.V,rwz,Rw.cells,Value.cells]) (by decide) (by decide)
section
variable {w w' : World} {B B' : Nat} {v : Value} {R : List Rw} {L : List En} {r : Rw} {q : En}
end
section
variable {w w' : World} {B B' : Nat} {v : Value} {L : List En}
end
end
end Go.Proofs.YtlegpkdighoflaaGreat
