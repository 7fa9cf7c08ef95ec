/- A part of the proof of AuditTells. -/
import Derived.Test.YtmllnpokbbabhaaGreatTbb
import Derived.Test.YtmllnpokbbabhaaGreatTaz
set_option linter.unusedVariables false
set_option linter.unusedSimpArgs false
set_option maxRecDepth 100000
set_option maxHeartbeats 40000000
namespace Go.Proofs.YtmllnpokbbabhaaGreat
open Go Go.RowKit Sh
abbrev RS := List UInt8 × Int
def Nt (n:Nat) (s:RS):List UInt8:=if s.2=0∧n≤s.1.length then s.1.take n else []
def Az (n:Nat) (s:RS):RS:=if s.2=0 then (if n≤s.1.length then (s.1.drop n,0) else (s.1,10)) else s
def WRd (w:World) (g:Nat) (s:RS):Prop:=∃v,Bk w g 224 [v,.int .i64 s.2]∧By w 0 g v s.1
theorem WRd.lt {w:World} {g:Nat} {s:RS} (h:WRd w g s):g<w.heap.size:=let ⟨_,h1,_⟩:=h;h1.lt
theorem WRd.below {w w':World} {g B:Nat} {s:RS} (h:WRd w g s) (hb:Below B w w') (hB:g<B):WRd w' g s:=
 let ⟨v,h1,h2⟩:=h;⟨v,h1.below hb hB,h2.below (hb.mono (by omega))⟩
theorem WRd.up {w w':World} {g:Nat} {s:RS} (h:WRd w g s) (hb:Below w.heap.size w w'):WRd w' g s:=h.below hb h.lt
theorem WRd.putFar {w:World} {g:Nat} {s:RS} (h:WRd w g s) {a:Addr} (ha:g<a.block) (vs:List Value):WRd (C2 w a vs) g s:=
 let ⟨v,h1,h2⟩:=h;⟨v,h1.putFar (by omega) vs,h2.below (C0 (Below.refl _ _) (by omega) vs)⟩
def E5a (n:Nat) (l:List UInt8) (v:Value):Prop:=0<n→l=[]→v=.slice none 0 0
structure TkR (w w' : World) (g : Nat) (s : RS) : Prop where
 rd:WRd w' g s
 gr:w.grownBy w' (some g)
theorem TkR.refl {w:World} {g:Nat} {s:RS} (h:WRd w g s):TkR w w g s:=⟨h,World.grownBy.refl w _⟩
theorem Rv (g:Nat) (s:RS) (n:Nat) (hn:n≤1099511627776) (w:World) (h:WRd w g s) :
 Calls Tryz.prog 130 #[.pointer (some ⟨g,0,none⟩),.int .i64 (n:Int)] w fun e w'=>∃v,e=.returned v∧By w' 0 g v (Nt n s)∧TkR w w' g (Az n s)∧E5a n (Nt n s) v:=by
 obtain⟨l,aA⟩:=s;obtain⟨v,K,hy⟩:=h;simp only at K hy;have zg:=Nat.le_of_lt K.lt;have c1:w.cell? ⟨g,1,none⟩=some (.int .i64 aA):=K.at_ rfl;have aB:∀w':World,By w' 0 g (.slice none 0 0) []:=fun w'=>⟨none,0,rfl,Nat.le_refl _,by decide,.inl rfl⟩;by_cases hb:aA=0
 ·subst hb;obtain⟨A,c,rfl,aG,aH,aI⟩:=hy.open_;have c0:w.cell? ⟨g,0,none⟩=some (.slice A l.length c):=K.at_ rfl;by_cases hl:l.length<n
  ·have aD:decide ((l.length:Int)<(n:Int))=true:=decide_eq_true (by omega);have f1:=K.frozen 1;have e1:Nt n (l,0)=[]:=by unfold Nt;rw[if_neg (by simp;omega)]
   have e2:Az n (l,0)=(l,10):=by unfold Az;rw[if_pos rfl,if_neg (by simp;omega)]
   rw[e1,e2];go_enter Tryz.func130,Tryz.ntmps130;go_wp2_with fail;go_ret;exact ⟨_,rfl,aB _,⟨⟨_,K.set_ 1 _,hy.grown (U0 w g 1 _) zg⟩,U0 w g 1 _⟩,fun _ _=>rfl⟩
  ·have aD:decide ((l.length:Int)<(n:Int))=false:=decide_eq_false (by omega);have f0:=K.frozen 0;have e1:Nt n (l,0)=l.take n:=by unfold Nt;rw[if_pos ⟨rfl,by simp;omega⟩]
   have e2:Az n (l,0)=(l.drop n,0):=by unfold Az;rw[if_pos rfl,if_pos (by simp;omega)]
   rw[e1,e2];have aJ:0≤(n:Int):=by omega
   have aK:(n:Int)≤(l.length:Int):=by omega
   have aL:(n:Int)≤(c:Int):=by omega
   have aE:¬ (l.length:Int)<(n:Int):=by omega
   have hd:=hy.drops (k:=n) (by omega);have ht:=hy.takes (k:=n) (by omega);have aM:(l.drop n).length=l.length-n:=by simp
   have q7:(l.take n).length=n:=by rw[List.length_take];omega
   have aF:By w 0 g (.slice A n n) (l.take n):=by obtain⟨A',c',q1,q2,q3,q4⟩:=ht;injection q1 with q1 q5 q6;subst q1;exact ⟨A,n,by rw[List.length_map,q7],by rw[List.length_map];omega,by omega,q4⟩
   have aC:∀u,By w 0 g u (l.drop n)→By (w.setCell ⟨g,0,none⟩ u) 0 g (.slice A n n) (l.take n)∧TkR w (w.setCell ⟨g,0,none⟩ u) g (l.drop n,0)∧E5a n (l.take n) (.slice A n n):=fun u hu=>⟨aF.grown (U0 w g 0 u) zg,⟨⟨u,K.set_ 0 u,hu.grown (U0 w g 0 u) zg⟩,U0 w g 0 u⟩,fun h0 h1=>(by rw[h1]at q7;simp at q7;omega)⟩
   by_cases hcn:c=n
   ·rw[if_pos hcn]at hd;subst hcn;simp only[Nat.sub_self,show l.length-c=0 by omega]at hd;go_enter Tryz.func130,Tryz.ntmps130;go_wp2_with fail;go_ret;exact ⟨_,rfl,aC _ hd⟩
   ·rw[if_neg hcn]at hd;go_enter Tryz.func130,Tryz.ntmps130;go_wp2_with fail;go_ret;exact ⟨_,rfl,aC _ hd⟩
 ·have aN:=beq_eq_false_iff_ne.2 hb;have e1:Nt n (l,aA)=[]:=by unfold Nt;rw[if_neg (by simp[hb])]
  have e2:Az n (l,aA)=(l,aA):=by unfold Az;rw[if_neg (by simp[hb])]
  rw[e1,e2];go_enter Tryz.func130,Tryz.ntmps130;go_wp2_with fail;go_ret;exact ⟨_,rfl,aB _,TkR.refl ⟨v,K,hy⟩,fun _ _=>rfl⟩
def w8L (l:List UInt8):UInt64:=l.foldl (fun v x=>(v <<< 8) ||| x.toUInt64) 0
def w8N (s:RS):Nat:=(w8L (Nt 8 s)).toNat
theorem C6l {l:List UInt8} {i:Nat} {x:UInt8} (hx:l[i]?=some x):w8L (l.take (i+1))=(w8L (l.take i) <<< 8) ||| x.toUInt64:=by
 unfold w8L;rw[List.take_add_one,hx,List.foldl_append];rfl
theorem B1h (g:Nat) (s:RS) (w:World) (h:WRd w g s) :
 Calls Tryz.prog 133 #[.pointer (some ⟨g,0,none⟩)] w fun e w'=>e=.returned (.int .u64 (E6 (w8L (Nt 8 s))))∧TkR w w' g (Az 8 s):=by
 have hc:=Rv g s 8 (by decide) w h;rw[show ((8:Nat):Int)=8 from rfl]at hc;clear h;have aB:(Nt 8 s).length≤8:=by
  unfold Nt;split
  ·rw[List.length_take];omega
  ·exact Nat.zero_le _
 generalize Nt 8 s=l at *;generalize Az 8 s=s' at *;go_enter Tryz.func133,Tryz.ntmps133;go_wp2_with fail;refine hc.mono ?_;rintro e w1 ⟨v,rfl,hv,hT,-⟩;obtain⟨A,c,rfl,aC,aD,aG⟩:=hv.open_;obtain⟨n,hn⟩:=D9 (l.length);rw[←hn]at hv aB ⊢;have HN:=Lib.hid hn;clear hn aC aD;go_wp2_with fail;go_loopw [3,9] (fun a x wr=>∃i,i≤n∧x=.int .i64 (i:Int)∧a=.int .u64 (E6 (w8L (l.take i)))∧wr=w1) (fun _ x _=>n-(intOf x).toNat)
 case atStart=>exact ⟨0,by omega,rfl,rfl,rfl⟩
 case round=>
  obtain⟨i,hi,rfl,rfl,rfl⟩:=hrel;by_cases hlt:i<n
  ·have hd:decide ((i:Int)<(n:Int))=true:=decide_eq_true (by omega);have aH:=decide_eq_true hlt;obtain⟨x,hx⟩:∃x,l[i]?=some x:=⟨_,List.getElem?_eq_getElem (by rw[←HN.out];exact hlt)⟩;obtain⟨g2,o2,c2,hA,-,-,-,-,hrow⟩:=hv.row (by rw[←HN.out];omega);have aE:A=some ⟨g2,o2,none⟩:=by injection hA
   subst aE;have aA:wr.cell? ⟨g2,o2+i,none⟩=some (.int .u8 (n8 x)):=(T5.1 hrow).2 i (v8 x) (by simp[c8,hx]);have aF:=C6l hx;clear hx hrow;go_wp2_with fail;go_roundw;case rel=>exact ⟨i+1,by omega,by go_num,by simp[aF],by trivial⟩
   case measure=>simp[intOf];omega
  ·obtain rfl:i=n:=by omega
   have hd:decide ((i:Int)<(i:Int))=false:=decide_eq_false (by omega);go_wp2_with fail;go_ret;have e:l.take i=l:=List.take_of_length_le (by rw[←HN.out];exact Nat.le_refl _);exact ⟨by rw[e];rfl,hT⟩
def A9a (most:Nat) (s:RS):Nat:=if most<w8N s then 0 else w8N s
def B1f (most:Nat) (s:RS):RS:=if most<w8N s then ((Az 8 s).1,12) else Az 8 s
theorem WRd.setBad {w:World} {g:Nat} {s:RS} (h:WRd w g s) (b:Int):WRd (w.setCell ⟨g,1,none⟩ (.int .i64 b)) g (s.1,b):=
 let ⟨v,h1,h2⟩:=h;⟨v,h1.set_ 1 _,h2.grown (U0 w g 1 _) (Nat.le_of_lt h1.lt)⟩
theorem B3o (g:Nat) (s:RS) (most:Nat) (hm:most≤1099511627776) (w:World) (h:WRd w g s) :
 Calls Tryz.prog 131 #[.pointer (some ⟨g,0,none⟩),.int .u64 (most:Int)] w fun e w'=>e=.returned (.int .i64 (A9a most s:Int))∧TkR w w' g (B1f most s):=by
 have hc:=B1h g s w h;clear h;obtain⟨v,hv⟩:=D9 (w8L (Nt 8 s));have hn:w8N s=v.toNat:=by unfold w8N;rw[hv]
 unfold A9a B1f;rw[hn];rw[←hv]at hc;clear hv hn;generalize Az 8 s=s' at *;have aA:E6 v=(v.toNat:Int):=rfl;by_cases hlt:most<v.toNat
 ·have hd:decide ((most:Int)<E6 v)=true:=decide_eq_true (by rw[aA];omega);rw[if_pos hlt,if_pos hlt];clear aA;go_enter Tryz.func131,Tryz.ntmps131;go_wp2_with fail;refine hc.mono ?_;rintro e w1 ⟨rfl,hT⟩;obtain⟨u,K,-⟩:=hT.rd;have f1:=K.frozen 1;have c1:w1.cell? ⟨g,1,none⟩=some (.int .i64 s'.2):=K.at_ rfl;clear K;go_wp2_with fail;go_ret;exact ⟨rfl,hT.rd.setBad 12,hT.gr.trans (U0 w1 g 1 _)⟩
 ·have hd:decide ((most:Int)<E6 v)=false:=decide_eq_false (by rw[aA];omega);have hw:IntKind.i64.wrap (E6 v)=E6 v:=IntWalk.i64_in _ (by rw[aA];omega);rw[if_neg hlt,if_neg hlt];rw[←aA];clear aA;go_enter Tryz.func131,Tryz.ntmps131;go_wp2_with fail;refine hc.mono ?_;rintro e w1 ⟨rfl,hT⟩;go_wp2_with fail;go_ret;exact ⟨rfl,hT⟩
def Ji (s:RS):Nat:=A9a 65536 s
def Lf (s:RS):RS:=B1f 65536 s
theorem Tw (g:Nat) (s:RS) (w:World) (h:WRd w g s) :
 Calls Tryz.prog 81 #[.pointer (some ⟨g,0,none⟩)] w fun e w'=>e=.returned (.int .i64 (Ji s:Int))∧TkR w w' g (Lf s):=by
 have hc:=B3o g s 65536 (by decide) w h;rw[show ((65536:Nat):Int)=65536 from rfl]at hc;clear h;go_enter Tryz.func81,Tryz.ntmps81;go_wp2_with fail;refine hc.mono ?_;rintro e w1 ⟨rfl,hT⟩;go_wp2_with fail;go_ret;exact ⟨rfl,hT⟩
def Nj (s:RS):Int:=if s.2=0∧0<s.1.length then 11 else s.2
theorem Ac (g:Nat) (s:RS) (w:World) (h:WRd w g s) :
 Calls Tryz.prog 80 #[.pointer (some ⟨g,0,none⟩)] w fun e w'=>e=.returned (.int .i64 (Nj s))∧w'=w:=by
 obtain⟨l,aA⟩:=s;obtain⟨v,K,hy⟩:=h;obtain⟨A,c,rfl,-,-,-⟩:=hy.open_;simp only at K;have c0:w.cell? ⟨g,0,none⟩=some (.slice A l.length c):=K.at_ rfl;have c1:w.cell? ⟨g,1,none⟩=some (.int .i64 aA):=K.at_ rfl;by_cases hb:aA=0
 ·subst hb;rcases Nat.eq_zero_or_pos l.length with hz | hp
  ·have e:Nj (l,0)=0:=by unfold Nj;rw[if_neg (fun h=>by have h2:=h.2;simp only at h2;omega)]
   rw[e];have hd:decide ((0:Int)<(l.length:Int))=false:=decide_eq_false (by omega);have aB:decide (0<l.length)=false:=decide_eq_false (by omega);clear hz;go_enter Tryz.func80,Tryz.ntmps80;go_wp2_with fail;go_ret;exact ⟨rfl,rfl⟩
  ·have e:Nj (l,0)=11:=by unfold Nj;rw[if_pos ⟨rfl,hp⟩]
   rw[e];have hd:decide ((0:Int)<(l.length:Int))=true:=decide_eq_true (by omega);have aB:decide (0<l.length)=true:=decide_eq_true (by omega);go_enter Tryz.func80,Tryz.ntmps80;go_wp2_with fail;go_ret;exact ⟨rfl,rfl⟩
 ·have e:Nj (l,aA)=aA:=by unfold Nj;rw[if_neg (by simp[hb])]
  have aC:=beq_eq_false_iff_ne.2 hb;rw[e];go_enter Tryz.func80,Tryz.ntmps80;go_wp2_with fail;go_ret;exact ⟨rfl,rfl⟩
theorem A4e (v:Value) (l:List UInt8) (w:World) (hv:By w 0 w.heap.size v l) (hn:l.length≤1099511627776) :
 Calls Tryz.prog 72 #[v] w fun e w'=>∃u,e=.returned u∧By w' w.heap.size w'.heap.size u l∧Nx w' u.ownBlock 5∧Below w.heap.size w w':=by
 rcases Nat.eq_zero_or_pos l.length with hz | hp
 ·obtain rfl:=List.eq_nil_of_length_eq_zero hz;obtain⟨A,c,rfl,hc1,hc2,-⟩:=hv.open_;have aE:∀(w:World) (a:Option Addr) (n c n' c':Nat),(binOp .eql 38 (.slice a n c) (.slice none n' c')).run Tryz.prog w=.ok (.bool a.isNone) w:=fun w a n c n' c'=>Lib.run_eql_slice_nil w _ _ a n c n' c' Tryz.underlying38;have aA:∀w':World,By w' w.heap.size w'.heap.size (.slice none 0 0) []:=fun w'=>⟨none,0,rfl,Nat.le_refl _,by decide,.inl rfl⟩;cases A with
  | none=>
   go_enter Tryz.func72,Tryz.ntmps72;go_wp2_with fail;go_ret;exact ⟨_,rfl,aA _,fun g e=>(by cases e),Below.refl _ _⟩
  | some a=>
   have aC:=Lib.hid (hv.alloc (Nat.le_refl _) (.cells #[] 5));have ho:Hid (J0 (w.alloc (.cells #[] 5)) w.heap.size (.slice (some ⟨w.heap.size,0,none⟩) 0 0) []):=Lib.hid (World.ownsRow_made w #[] 0 (Nat.le_refl _) (Nat.zero_le _) (by simp));clear hv;go_enter Tryz.func72,Tryz.ntmps72;go_wp2_with (at_builtin;refine Vm _ w.heap.size _ [] rfl _ _ rfl rfl ho.out _ rfl [] 0 _ aC.out (by simp) (by simp) ?_;intro A2 c2 w2 aF aG aB aD aH aI);go_ret;exact ⟨_,rfl,by simpa using aB.by_,Be aB,(U7 _ _).trans aD⟩
 ·refine (A3t v l w hv hp hn).mono ?_;rintro e w' ⟨u,rfl,ho,hb⟩;exact ⟨u,rfl,ho.by_,Be ho,hb⟩
def byN (s:RS):Nat:=A9a 1048576 s
def Zo (s:RS):List UInt8:=Nt (byN s) (B1f 1048576 s)
def rbS (s:RS):RS:=Az (byN s) (B1f 1048576 s)
theorem Mh (most:Nat) (s:RS):A9a most s≤most:=by unfold A9a;split<;>omega
theorem Qf (g:Nat) (s:RS) (w:World) (h:WRd w g s) :
 Calls Tryz.prog 78 #[.pointer (some ⟨g,0,none⟩)] w fun e w'=>∃u,e=.returned u∧By w' w.heap.size w'.heap.size u (Zo s)∧Nx w' u.ownBlock 5∧TkR w w' g (rbS s):=by
 have hc:=B3o g s 1048576 (by decide) w h;rw[show ((1048576:Nat):Int)=1048576 from rfl]at hc;have aA:=Mh 1048576 s;unfold Zo rbS byN;generalize A9a 1048576 s=n at *;generalize B1f 1048576 s=s1 at *;clear h;go_enter Tryz.func78,Tryz.ntmps78;go_wp2_with fail;refine hc.mono ?_;rintro e w1 ⟨rfl,hT⟩;go_wp2_with fail;refine (Rv g s1 n (by omega) w1 hT.rd).mono ?_;rintro e w2 ⟨v,rfl,hv,hT2,-⟩;have hl:(Nt n s1).length≤1099511627776:=by
  unfold Nt;split
  ·rw[List.length_take];omega
  ·exact Nat.zero_le _
 go_wp2_with fail;refine (A4e v (Nt n s1) w2 (hv.more (Nat.le_of_lt hT2.rd.lt)) hl).mono ?_;rintro e w3 ⟨u,rfl,hu,hk,b3⟩;have hs:=Nat.le_trans hT.gr.size hT2.gr.size;go_wp2_with fail;go_ret;exact ⟨_,rfl,By.less hu hs,hk,hT2.rd.up b3,(hT.gr.trans hT2.gr).trans (E5 b3 g)⟩
theorem A6z (v:Value) (l:List UInt8) (w:World) (hv:By w 0 w.heap.size v l) (hn:l.length≤1099511627776) :
 Calls Tryz.prog 77 #[v] w fun e w'=>∃g,e=.returned (.pointer (some ⟨g,0,none⟩))∧w.heap.size≤g∧WRd w' g (l,0)∧Below w.heap.size w w':=by
 go_enter Tryz.func77,Tryz.ntmps77;go_wp2_with fail;refine (A4e v l w hv hn).mono ?_;rintro e w1 ⟨u,rfl,hu,-,b1⟩;obtain⟨A,c,rfl,hc1,hc2,-⟩:=hu.open_;go_wp2_with fail;go_ret;exact ⟨_,rfl,b1.size,⟨_,Bk.new w1 _ _,(By.less hu (Nat.zero_le _)).alloc (Nat.le_refl _) _⟩,b1.alloc b1.size _⟩
def Re (s:RS):List UInt8:=if Nt 32 s=[] then z8 32 else Nt 32 s
def sgL (s:RS):List UInt8:=if Nt 64 s=[] then z8 64 else Nt 64 s
theorem Rt (g:Nat) (s:RS) (w:World) (h:WRd w g s) :
 Calls Tryz.prog 82 #[.pointer (some ⟨g,0,none⟩)] w fun e w'=>e=.returned (A8 (Re s))∧TkR w w' g (Az 32 s):=by
 obtain⟨W0,aB⟩:=D9 ((w.alloc (Obj.cells (c8 (z8 32)).toArray 40)).alloc (Obj.cells (c8 (z8 32)).toArray 40));have B0:Below w.heap.size w W0:=by rw[aB];exact (U7 _ _).alloc (by simp) _
 have R0:Bk W0 w.heap.size 40 (c8 (z8 32)):=by rw[aB];exact (Bk.new w _ _).alloc _
 have H0:Bk W0 (w.heap.size+1) 40 (c8 (z8 32)):=by rw[aB];simpa using Bk.new (w.alloc (Obj.cells (c8 (z8 32)).toArray 40)) 40 (c8 (z8 32))
 have zg:=h.lt;have hr:WRd W0.drew g s:=(h.below B0 zg).below (B:=w.heap.size) ((Below.refl _ W0).drew) zg;have aA:=Rv g s 32 (by decide) W0.drew hr;rw[show ((32:Nat):Int)=32 from rfl]at aA;unfold Re;have aI:Nt 32 s=[]∨(Nt 32 s).length=32:=by
  unfold Nt;split
  ·rename_i h1;exact .inr (by rw[List.length_take];omega)
  ·exact .inl rfl
 have hz:=L6 32;clear h hr;generalize Nt 32 s=x at *;generalize Az 32 s=s' at *;obtain⟨r,aD⟩:=D9 ((if x=[] then z8 32 else x));rw[←aD];have HR:=Lib.hid aD;clear aD;go_enter Tryz.func82,Tryz.ntmps82;go_wp2_with fail;rw[←aB];clear aB;have aJ:Below w.heap.size w W0.drew:=B0.drew;refine Ij (fun W=>True) ?_;refine Cn (A:=?A1) [0,1] trivial (fun W hW=>?h1) ?r1;case h1=>exact Fa
 refine Q6 2 fun Q' hQ'=>?_;dsimp only[C6];go_wp2_with fail;refine aA.mono ?_;rintro e w1 ⟨u,rfl,hu,hT,aK⟩;have H1:=H0.drew.grown (w':=w1) (row:=some g) hT.gr (fun e=>by injection e with e;have:=H0.lt;omega);have R1:=R0.drew.grown (w':=w1) (row:=some g) hT.gr (fun e=>by injection e with e;omega);have G1:=(E5 aJ g).trans hT.gr;have aH:=hT.rd;clear hT;go_wp2_with fail;refine hQ' _ _ trivial ?_;clear hQ';refine Q6 3 fun Q' hQ'=>?_;dsimp only[C6];rcases aI with rfl | hlx
 ·obtain rfl:=aK (by decide) rfl;obtain rfl:r=z8 32:=by rw[HR.out,if_pos rfl]
  have aE:∀ty,(Builtin.copy_ #[38,38] ty #[.slice (some ⟨w.heap.size+1,0,none⟩) 32 32,.slice none 0 0]).run Tryz.prog w1=.ok (goInt 0) w1:=fun ty=>run_copy_none w1 _ _ ty 5 _ _ _ _ _ _ Tryz.underlying38 (by kernel_rfl) (by decide);go_wp2_with fail;refine hQ' _ _ trivial ?_;clear hQ' aE;refine Gn ?_;have aF:C4 w1 ⟨w.heap.size+1,0,none⟩ 32=some (c8 (z8 32)):=by have:=H1.rows;rwa [C1,L6]at this
  have aG:=Nn 32 R1 (by simp);go_wp2_with fail;refine bodyPost_ret (C7 rfl _ _ _ _ _ _ rfl (R1.puts (vs:=c8 (z8 32)) (by simp)) Tryz.underlying40 rfl (by simp[H9])) rfl ⟨rfl,?_,T8 G1 (Nat.le_refl _) _ _⟩;exact aH.putFar zg _
 ·have aL:x≠[]:=fun e=>by rw[e]at hlx;simp at hlx
  obtain rfl:x=r:=by rw[HR.out,if_neg aL]
  obtain⟨gu,ou,cu,rfl,aN,aM,_,aO,aC⟩:=hu.row (by omega);rw[hlx];have aE:∀ty,(Builtin.copy_ #[38,38] ty #[.slice (some ⟨w.heap.size+1,0,none⟩) 32 32,.slice (some ⟨gu,ou,none⟩) 32 cu]).run Tryz.prog w1=.ok (goInt 32) (C2 w1 ⟨w.heap.size+1,0,none⟩ (c8 x)):=fun ty=>by
   have:=run_copy_cells (P:=Tryz.prog) w1 38 38 ty 5 (w.heap.size+1) 0 32 32 ⟨gu,ou,none⟩ 32 cu (c8 x) Tryz.underlying38 (by kernel_rfl) (by simp[hlx]) (fun j v hj=>(Lz aC).2 j v hj) (fun j hj=>by rw[Nat.zero_add,H1.cell];simp[hlx]at hj;simp[hj]) (fun j hj=>H1.frozen _) (by intro u hu;obtain⟨y,_,rfl⟩:=List.mem_map.1 hu;rfl);rw[C1,hlx]at this;exact this
  go_wp2_with fail;refine hQ' _ _ trivial ?_;clear hQ' aE;refine Gn ?_;have H2:=H1.puts (vs:=c8 x) (by simp[hlx]);have R2:=R1.putFar (p:=⟨w.heap.size+1,0,none⟩) (by simp) (c8 x);have aF:C4 (C2 w1 ⟨w.heap.size+1,0,none⟩ (c8 x)) ⟨w.heap.size+1,0,none⟩ 32=some (c8 x):=by have:=H2.rows;rwa [C1,hlx]at this
  have aG:=Nn 32 R2 (by simp);go_wp2_with fail;refine bodyPost_ret (C7 rfl _ _ _ _ _ _ rfl (R2.puts (vs:=c8 x) (by simp[hlx])) Tryz.underlying40 rfl (by simp[H9,hlx])) rfl ⟨rfl,?_,T8 (T8 G1 (by omega) _ _) (Nat.le_refl _) _ _⟩;exact (aH.putFar (show g<w.heap.size+1 by omega) _).putFar zg _
theorem C9g (g:Nat) (s:RS) (w:World) (h:WRd w g s) :
 Calls Tryz.prog 134 #[.pointer (some ⟨g,0,none⟩)] w fun e w'=>e=.returned (A8 (sgL s))∧TkR w w' g (Az 64 s):=by
 obtain⟨W0,aB⟩:=D9 ((w.alloc (Obj.cells (c8 (z8 64)).toArray 67)).alloc (Obj.cells (c8 (z8 64)).toArray 67));have B0:Below w.heap.size w W0:=by rw[aB];exact (U7 _ _).alloc (by simp) _
 have R0:Bk W0 w.heap.size 67 (c8 (z8 64)):=by rw[aB];exact (Bk.new w _ _).alloc _
 have H0:Bk W0 (w.heap.size+1) 67 (c8 (z8 64)):=by rw[aB];simpa using Bk.new (w.alloc (Obj.cells (c8 (z8 64)).toArray 67)) 67 (c8 (z8 64))
 have zg:=h.lt;have hr:WRd W0.drew g s:=(h.below B0 zg).below (B:=w.heap.size) ((Below.refl _ W0).drew) zg;have aA:=Rv g s 64 (by decide) W0.drew hr;rw[show ((64:Nat):Int)=64 from rfl]at aA;unfold sgL;have aI:Nt 64 s=[]∨(Nt 64 s).length=64:=by
  unfold Nt;split
  ·rename_i h1;exact .inr (by rw[List.length_take];omega)
  ·exact .inl rfl
 have hz:=L6 64;clear h hr;generalize Nt 64 s=x at *;generalize Az 64 s=s' at *;obtain⟨r,aD⟩:=D9 ((if x=[] then z8 64 else x));rw[←aD];have HR:=Lib.hid aD;clear aD;go_enter Tryz.func134,Tryz.ntmps134;go_wp2_with fail;rw[←aB];clear aB;have aJ:Below w.heap.size w W0.drew:=B0.drew;refine Ij (fun W=>True) ?_;refine Cn (A:=?A1) [0,1] trivial (fun W hW=>?h1) ?r1;case h1=>exact Fa
 refine Q6 2 fun Q' hQ'=>?_;dsimp only[C6];go_wp2_with fail;refine aA.mono ?_;rintro e w1 ⟨u,rfl,hu,hT,aK⟩;have H1:=H0.drew.grown (w':=w1) (row:=some g) hT.gr (fun e=>by injection e with e;have:=H0.lt;omega);have R1:=R0.drew.grown (w':=w1) (row:=some g) hT.gr (fun e=>by injection e with e;omega);have G1:=(E5 aJ g).trans hT.gr;have aH:=hT.rd;clear hT;go_wp2_with fail;refine hQ' _ _ trivial ?_;clear hQ';refine Q6 3 fun Q' hQ'=>?_;dsimp only[C6];rcases aI with rfl | hlx
 ·obtain rfl:=aK (by decide) rfl;obtain rfl:r=z8 64:=by rw[HR.out,if_pos rfl]
  have aE:∀ty,(Builtin.copy_ #[38,38] ty #[.slice (some ⟨w.heap.size+1,0,none⟩) 64 64,.slice none 0 0]).run Tryz.prog w1=.ok (goInt 0) w1:=fun ty=>run_copy_none w1 _ _ ty 5 _ _ _ _ _ _ Tryz.underlying38 (by kernel_rfl) (by decide);go_wp2_with fail;refine hQ' _ _ trivial ?_;clear hQ' aE;refine Gn ?_;have aF:C4 w1 ⟨w.heap.size+1,0,none⟩ 64=some (c8 (z8 64)):=by have:=H1.rows;rwa [C1,L6]at this
  have aG:=Nn 64 R1 (by simp);go_wp2_with fail;refine bodyPost_ret (C7 rfl _ _ _ _ _ _ rfl (R1.puts (vs:=c8 (z8 64)) (by simp)) Tryz.underlying67 rfl (by simp[Oz])) rfl ⟨rfl,?_,T8 G1 (Nat.le_refl _) _ _⟩;exact aH.putFar zg _
 ·have aL:x≠[]:=fun e=>by rw[e]at hlx;simp at hlx
  obtain rfl:x=r:=by rw[HR.out,if_neg aL]
  obtain⟨gu,ou,cu,rfl,aN,aM,_,aO,aC⟩:=hu.row (by omega);rw[hlx];have aE:∀ty,(Builtin.copy_ #[38,38] ty #[.slice (some ⟨w.heap.size+1,0,none⟩) 64 64,.slice (some ⟨gu,ou,none⟩) 64 cu]).run Tryz.prog w1=.ok (goInt 64) (C2 w1 ⟨w.heap.size+1,0,none⟩ (c8 x)):=fun ty=>by
   have:=run_copy_cells (P:=Tryz.prog) w1 38 38 ty 5 (w.heap.size+1) 0 64 64 ⟨gu,ou,none⟩ 64 cu (c8 x) Tryz.underlying38 (by kernel_rfl) (by simp[hlx]) (fun j v hj=>(Lz aC).2 j v hj) (fun j hj=>by rw[Nat.zero_add,H1.cell];simp[hlx]at hj;simp[hj]) (fun j hj=>H1.frozen _) (by intro u hu;obtain⟨y,_,rfl⟩:=List.mem_map.1 hu;rfl);rw[C1,hlx]at this;exact this
  go_wp2_with fail;refine hQ' _ _ trivial ?_;clear hQ' aE;refine Gn ?_;have H2:=H1.puts (vs:=c8 x) (by simp[hlx]);have R2:=R1.putFar (p:=⟨w.heap.size+1,0,none⟩) (by simp) (c8 x);have aF:C4 (C2 w1 ⟨w.heap.size+1,0,none⟩ (c8 x)) ⟨w.heap.size+1,0,none⟩ 64=some (c8 x):=by have:=H2.rows;rwa [C1,hlx]at this
  have aG:=Nn 64 R2 (by simp);go_wp2_with fail;refine bodyPost_ret (C7 rfl _ _ _ _ _ _ rfl (R2.puts (vs:=c8 x) (by simp[hlx])) Tryz.underlying67 rfl (by simp[Oz,hlx])) rfl ⟨rfl,?_,T8 (T8 G1 (by omega) _ _) (Nat.le_refl _) _ _⟩;exact (aH.putFar (show g<w.heap.size+1 by omega) _).putFar zg _
end Go.Proofs.YtmllnpokbbabhaaGreat
