/- A part of the proof of DirPlays. -/
import Derived.Maps.AppendAt
import Derived.Test.YtlegpkdighoflaaGreatRaz
set_option linter.unusedVariables false
set_option linter.unusedSimpArgs false
set_option maxRecDepth 100000
set_option maxHeartbeats 40000000
namespace Go.Proofs.YtlegpkdighoflaaGreat
open Go Go.RowKit Sh
section
section
variable {w : World} {base : Nat} {v : Value} {e : TypeId} {sz n : Nat} {xs : List Value}
theorem Ai (h:w.ownsRow base e sz v n xs):∃A c,v=.slice A n c∧n≤c∧c≤9223372036854775807:=by
 rcases h.2 with ⟨rfl,rfl⟩ | ⟨g,cap,cur,rfl,_,_,h1,h2,_⟩
 ·exact ⟨none,0,rfl,Nat.le_refl _,by omega⟩
 ·exact ⟨_,cap,rfl,h1,by unfold maxLen at h2;exact h2⟩
theorem Aw {w':World} {B:Nat} (h:w.ownsRow base e sz v n xs) (hb:Below B w w') (hB:w.heap.size≤B):w'.ownsRow base e sz v n xs:=by
 refine World.ownsRow.kept (row:=none) h ⟨hb.os,hb.tape,hb.output,hb.size,fun k hk _=>hb.block k (by omega)⟩ ?_;cases hv:v.ownBlock<;>simp
theorem Yj {base':Nat} (h:w.ownsRow base e sz v n xs) (hb:base'≤base):w.ownsRow base' e sz v n xs:=by
 refine ⟨h.1,?_⟩;rcases h.2 with h2 | ⟨g,cap,cur,hv,hg,r⟩
 ·exact .inl h2
 ·exact .inr ⟨g,cap,cur,hv,by omega,r⟩
theorem B8o {n' c:Nat} {A:Option Addr} (h:w.ownsRow base e sz (.slice A n' c) n xs):Rd w base w.heap.size A xs:=by
 rcases h.2 with ⟨hv,hn⟩ | ⟨g,cap,cur,hv,hbg,hh,_⟩
 ·subst hn;exact .inl (List.eq_nil_of_length_eq_zero (by rw[h.1,Nat.zero_mul]))
 ·have hA:A=Option.some ⟨g,0,none⟩:=by injection hv
  subst hA;refine .inr ⟨g,0,rfl,hbg,(Array.getElem?_eq_some_iff.1 hh).1,fun j u hu=>?_⟩;have:=h.cells (g:=g) rfl j u hu;rwa [U9]at this
variable {P : Program} {ops : Array Oper} {rest : List Oper} {o : Oper} {a : Act} {Q : Exit → Act → World → Prop}
theorem B6v (t:TypeId) (z:Value) (bytes:Nat) (ht:P.underlying t=some (.slice e)) (hinf:(P.info? e).map (fun i=>(i.zero,i.size,i.bytes))=some (some z,sz,bytes)) (hzs:z.cells.size=sz) (hpos:0<sz) (hby:bytes≤1024)
 (hgd:o.guard=none) (s x:Operand) (ho:o.op=.call { callee:=.builtin .append,args:=#[s,x],argTypes:=#[t,t] })
 (hs:a.eval s=v) (hown:w.ownsRow base e sz v n xs) (A:Option Addr) (m c:Nat) (hx:a.eval x=.slice A m c) (ys:List Value) (hl:ys.length=m*sz) (lo B:Nat) (hrd:Rd w lo B A ys) (hone:∀u∈ys,u.oneCell'=true) (hsz:n+m≤68719476736) (hb:base≤w.heap.size)
 (h:∀A' c' w',n+m≤c'→c'≤9223372036854775807→w'.ownsRow base e sz (.slice A' (n+m) c') (n+m) (xs++ys)→Below base w w'→w.grownBy w' v.ownBlock→((Value.slice A' (n+m) c').ownBlock=v.ownBlock∨(Value.slice A' (n+m) c').ownBlock=some w.heap.size)→wpList P ops Q rest (a.put o.dst (.slice A' (n+m) c')) w'):wpList P ops Q (o::rest) a w:=
 wpList_plain hgd fun _ hK=>by
  obtain⟨i0,aC,aD,aE,aF⟩:=info_parts hinf;have aB:(n+m)*bytes≤140737488355328:=by
   have:=Nat.mul_le_mul hsz hby;omega
  have aG:∃v' w',(Builtin.append_ #[t,t] o.type #[v,.slice A m c]).run P w=.ok v' w'∧w'.ownsRow base e sz v' (n+m) (xs++ys)∧w.grownBy w' v.ownBlock∧(v'.ownBlock=v.ownBlock∨v'.ownBlock=some w.heap.size):=by
   have aA:∀ad:Addr,(∀j u,ys[j]?=some u→w.cell? (ad.add j)=some u)→∃v' w',(Builtin.append_ #[t,t] o.type #[v,.slice (some ad) m c]).run P w=.ok v' w'∧w'.ownsRow base e sz v' (n+m) (xs++ys)∧w.grownBy w' v.ownBlock∧(v'.ownBlock=v.ownBlock∨v'.ownBlock=some w.heap.size):=by intro ad hc;obtain⟨v',w',h5,h6,h7,_,h8⟩:=run_append_own_at (P:=P) w base t o.type e i0 z sz bytes ht aC aD aE aF hzs hpos v n xs hown ad m c ys hl hc hone (by simp only[maxLen];omega) aB hb;exact ⟨v',w',h5,h6,h7,h8⟩
   rcases hrd with hy | ⟨g,of,rfl,_,_,hc⟩
   ·subst hy;have hm:m=0:=by
     have h0:m*sz=0:=by rw[←hl];rfl
     rcases Nat.mul_eq_zero.1 h0 with h | h
     ·exact h
     ·omega
    subst hm;cases A with
    | some ad=>exact aA ad (by simp)
    | none=>exact ⟨v,w,Qc w base _ o.type _ i0 sz ht aC v _ _ hown c,by simpa using hown,World.grownBy.refl w _,.inl rfl⟩
   ·exact aA ⟨g,of,none⟩ (fun j u hj=>by rw[U9];exact hc j u hj)
  obtain⟨v',w',hr,h2,h3,h4⟩:=aG;unfold Oper.wp execOp;simp only[ho,resolve,invoke,builtin,Sem.run_bind,Sem.run_pure,Result.andThen_ok,List.map_toArray,List.map_cons,List.map_nil,hs,hx,hr];obtain⟨A',c',rfl,aH,aI⟩:=Ai h2;exact hK _ _ (h A' c' w' aH aI h2 ((Below.refl _ _).grown h3 hb fun k hk=>(hown.lt k hk).1) h3 h4)
end
theorem Nu {P:Program} (w:World) (ρ:Operand→Value) (dst:Option Tmp) (ty:TypeId) (pos:String) (after:Array Edge) (guard:Option (Nat×Bool)) (t e n by_:Nat) (z:Value) (x:Operand)
 (ht:P.underlying t=some (.slice e)) (hi:(P.info? e).map (fun i=>(i.zero,i.size,i.bytes))=some (some z,n,by_)) (hz:z.cells.size=n) (hn:n≤16777216) (hp:n≠0) :
 (execOp ρ { dst,op:=.buildSlice t 1 #[(0,x)],type:=ty,pos,after,guard }).run P w=Jp n e w (L3 P ρ { dst,op:=.buildSlice t 1 #[(0,x)],type:=ty,pos,after,guard } w) (ρ x):=by
 generalize hv:ρ x=v;unfold Jp;split
 ·rename_i cs
  split
  ·rename_i hcs
   cases hq:P.info? e with
   | none=>simp[hq]at hi
   | some i=>
    simp only[hq,Option.map_some,Option.some.injEq,Prod.mk.injEq]at hi;obtain⟨h1,h2,_⟩:=hi;have hf:Instr.fill (fun i=>some (i*n,n)) ((Array.range (1*n)).map (fun j=>z.cells[j % z.cells.size]!)) [(0,Value.agg cs)]=some cs:=by
     have aA:((Array.range (1*n)).map (fun j=>z.cells[j % z.cells.size]!)).size=n:=by simp
     generalize (Array.range (1*n)).map (fun j=>z.cells[j % z.cells.size]!)=m at *;have h3:=Tu (fun i=>some (i*n,n)) [(0,Value.agg cs)] [(0,cs.toList)] m.toList ⟨by simp[hcs],rfl,by simp[hcs,aA],trivial⟩;rw[Array.toArray_toList]at h3;rw[h3];simp[Hd,Bg,hcs,aA,List.drop_eq_nil_of_le]
    have aB:¬ (16777216<n):=by omega
    have hr:(Instr.buildSlice t 1 #[(0,Value.agg cs)]).run P w=.ok (.slice (some ⟨w.heap.size,0,none⟩) 1 1) (w.alloc (.cells cs e)):=by unfold Instr.buildSlice;simp only[Sem.run_bind,run_underlying ht,Result.andThen_ok,sizeOf,typeInfo,Sem.run_pure];simp only[Nat.one_mul]at hf;simp[hq,h2,aB,hp,zeroValue,typeInfo,h1,newRow];rw[hf];rfl
    simp only[execOp,List.map_toArray,List.map_cons,List.map_nil,hv,Sem.run_bind,hr,Result.andThen_ok,Sem.run_pure]
  ·rfl
 ·rfl
def Hs (w:World) (lo B:Nat) (v:Value) (l:List (List UInt8)):Prop:=(∀k∈l,k.length=32)∧∃A c,v=.slice A l.length c∧l.length≤c∧c≤maxLen∧Rd w lo B A (c8 l.flatten)
section
variable {w w' : World} {lo lo' B B' : Nat} {v : Value} {l : List (List UInt8)}
theorem Hs.below (h:Hs w lo B v l) (hb:Below B w w'):Hs w' lo B v l:=let ⟨h0,A,c,h1,h2,h3,h4⟩:=h;⟨h0,A,c,h1,h2,h3,h4.below hb⟩
theorem Hs.more (h:Hs w lo B v l) (hB:B≤B'):Hs w lo B' v l:=let ⟨h0,A,c,h1,h2,h3,h4⟩:=h;⟨h0,A,c,h1,h2,h3,h4.more hB⟩
theorem Hs.form (h:Hs w lo B v l):∃A c,v=.slice A l.length c∧l.length≤c∧c≤9223372036854775807:=by
 obtain⟨_,A,c,h1,h2,h3,_⟩:=h;exact ⟨A,c,h1,h2,by unfold maxLen at h3;exact h3⟩
theorem Aj {l:List (List UInt8)} (h:∀k∈l,k.length=32):l.flatten.length=l.length*32:=by
 induction l with
 | nil=>rfl
 | cons k l ih=>
  have h1:=ih fun q hq=>h q (by simp[hq]);have h2:=h k (by simp);simp only[List.flatten_cons,List.length_append,List.length_cons]at h1 ⊢;omega
theorem B5z {l:List (List UInt8)} (h:∀k∈l,k.length=32):∀ {i:Nat} {k:List UInt8},l[i]?=some k→(l.flatten.drop (i*32)).take 32=k:=by
 induction l with
 | nil=>intro i p hp;simp at hp
 | cons q l ih=>
  intro i p hp;have h2:=h q (by simp);cases i with
  | zero=>
   simp at hp;subst hp;simp only[List.flatten_cons,Nat.zero_mul,List.drop_zero];rw[←h2,List.take_left]
  | succ i=>
   have:=ih (fun q hq=>h q (by simp[hq])) (i:=i) (k:=p) (by simpa using hp);simp only[List.flatten_cons];rw[show (i+1)*32=q.length+i*32 by omega,←List.drop_drop,List.drop_left];exact this
theorem Hs.row (h:Hs w lo B v l):∃g o c,(∀i k,l[i]?=some k→C8 w ⟨g,o+i*32,none⟩ 32=some (c8 k))∧lo≤g∧g<B∧v=.slice (some ⟨g,o,none⟩) l.length c∧l.length≤c∧c≤9223372036854775807∨l=[]:=by
 obtain⟨h0,A,c,h1,h2,h3,h4⟩:=h;rcases Nat.eq_zero_or_pos l.length with h5 | h5
 ·exact ⟨0,0,0,.inr (List.eq_nil_of_length_eq_zero h5)⟩
 ·obtain⟨g,o,rfl,hl,hb,hc⟩:=h4.some (by rw[E4,Aj h0];omega);refine ⟨g,o,c,.inl ⟨fun i k hk=>?_,hl,hb,h1,h2,by unfold maxLen at h3;exact h3⟩⟩;have aB:=B5z h0 hk;have aA:=h0 k (List.mem_of_getElem? hk);refine Cc.2 ⟨by rw[E4,aA],fun j u hj=>?_⟩;have aC:j<32:=by have:=(List.getElem?_eq_some_iff.1 hj).1;rw[E4,aA]at this;exact this
  rw[Nat.add_assoc];refine hc _ _ ?_;rw[←hj,←aB];simp only[c8,List.getElem?_map,List.getElem?_take,List.getElem?_drop,if_pos aC]
end
@[go_sem] theorem Zc (n : Nat) (t : TypeId) (w : World) (raw : Result Next) (cs : Array Value) : Jp n t w raw (.agg cs) = if cs.size = n then .ok (.value (.slice (some ⟨w.heap.size, 0, none⟩) 1 1)) (w.alloc (.cells cs t)) else raw := rfl
theorem A2x:(Tryz.prog.info? 23).map (fun i=>(i.zero,i.size,i.bytes))=some (some (A8 (z8 32)),32,32):=by kernel_rfl
theorem E2g {e t n b:Nat} {z:Value} (ht:Tryz.prog.underlying t=some (.slice e)) (hi:(Tryz.prog.info? e).map (fun i=>(i.zero,i.size,i.bytes))=some (some z,n,b)) (hz:z.cells.size=n) (hn:n≤16777216) (hp:n≠0)
 (w:World) (ρ:Operand→Value) (dst:Option Tmp) (ty:TypeId) (pos:String) (after:Array Edge) (guard:Option (Nat×Bool)) (x:Operand) :
 (execOp ρ { dst,op:=.buildSlice t 1 #[(0,x)],type:=ty,pos,after,guard }).run Tryz.prog w=Jp n e w (L3 Tryz.prog ρ { dst,op:=.buildSlice t 1 #[(0,x)],type:=ty,pos,after,guard } w) (ρ x):=Nu w ρ dst ty pos after guard t e n b z x ht hi hz hn hp
@[go_sem ↓ high] theorem F4s (w : World) (ρ : Operand → Value) (dst : Option Tmp) (ty : TypeId) (pos : String) (after : Array Edge) (guard : Option (Nat × Bool)) (x : Operand) :
 (execOp ρ { dst,op:=.buildSlice 42 1 #[(0,x)],type:=ty,pos,after,guard }).run Tryz.prog w=Jp 32 23 w (L3 Tryz.prog ρ { dst,op:=.buildSlice 42 1 #[(0,x)],type:=ty,pos,after,guard } w) (ρ x):=
 E2g Tryz.underlying42 A2x (by simp[A8,Value.cells]) (by decide) (by decide) w ρ dst ty pos after guard x
end
theorem C1f (W:World) (c:Int) (b:UInt8) (hc:c=n8 b):By (W.alloc (.cells #[.int .u8 c] 5)) 0 (W.alloc (.cells #[.int .u8 c] 5)).heap.size (.slice (some ⟨W.heap.size,0,none⟩) 1 1) [b]:=by
 have:=By.build W 5 (0,0) [b] (by simp);subst hc;simpa [v8] using this
theorem C0l {a b c:List UInt8} {x y z:Nat} (h1:a.length=x) (h2:b.length=y) (h3:c.length=z) (hs:x+y+z≤1099511627776):[a,b,c].flatten.length≤1099511627776:=by simp[h1,h2,h3];omega
def Ip (ls:List (List UInt8)):List UInt8:=Fo ls.flatten
@[simp, go_sem] theorem Bi (ls : List (List UInt8)) : (Ip ls).length = 32 := Cw _
theorem C1g (v:Value) (ls:List (List UInt8)) (w:World) (hp:J7 w w.heap.size v ls) (hsz:ls.flatten.length≤1099511627776) :
 Calls Tryz.prog 53 #[v] w fun e w'=>e=.returned (A8 (Ip ls))∧Below w.heap.size w w':=Md v ls w hp hsz
def Q6 (ks:List (List UInt8)):Nat→List UInt8
 | 0=>z8 32
 | i+1=>Ip [[3],Q6 ks i,gl ks i]
@[simp, go_sem] theorem Ah (ks : List (List UInt8)) : ∀ i, (Q6 ks i).length = 32
 | 0=>by simp[Q6]
 | i+1=>Bi _
def Dd (ks:List (List UInt8)):List UInt8:=Ip [[2],P9 (UInt64.ofNat ks.length),Q6 ks ks.length]
theorem Gh (ks:List (List UInt8)):(Dd ks).length=32:=Bi _
theorem Vh (v:Value) (ks:List (List UInt8)) (w:World) (hv:Hs w 0 w.heap.size v ks) (hkn:ks.length≤1000000):Calls Tryz.prog 31 #[v] w fun e w'=>e=.returned (A8 (Dd ks))∧Below w.heap.size w w':=by
 obtain⟨A,c,rfl,dQ,dZ⟩:=hv.form;have HV:=Lib.hid hv;have cW:=hv.1;obtain⟨n,hn⟩:=E9 (ks.length);have hw:IntKind.u64.wrap (n:Int)=F0 (UInt64.ofNat n):=by rw[Gb];unfold F0;simp
 have HN:=Lib.hid hn;rw[←hn]at dQ hkn ⊢;have dS:=Lib.hid cW;clear hv cW hn;have HE:Hid (Dd ks=Ip [[2],P9 (UInt64.ofNat n),Q6 ks n]):=Lib.hid (by rw[HN.out];rfl);obtain⟨W0,cH⟩:=E9 ((w.alloc (Obj.cells (c8 (z8 32)).toArray 23)));have hL:W0=O8 w [(23,(c8 (z8 32)))]:=cH;have B0:=Rf hL;have bH:=Um hL rfl;have z0:=ZL' 1 hL rfl;have cX:=SL' 1 hL rfl;clear hL;obtain⟨V1,bD⟩:=E9 (W0.alloc (Obj.cells (c8 (z8 32)).toArray 23));have cY:W0.heap.size=w.heap.size+1:=cX;have aL:Bk V1 (w.heap.size+1) 23 (c8 (z8 32)):=by rw[bD,←cY];exact Bk.new W0 _ _
 have aM:=Ed bD bH;have cZ:=Uo bD B0;clear cY;go_enter Tryz.func31,Tryz.ntmps31;go_wp2_with fail;rw[←cH,←bD];have dC:=ZA' bD z0;clear cH bD cX bH B0 z0;go_loopw [8] (fun x8 wr=>∃m:Nat,0≤m∧m≤n∧x8=.int .i64 (m:Int)∧Bk wr (w.heap.size) 23 (c8 (z8 32))∧Bk wr (w.heap.size+1) 23 (c8 (Q6 ks m))∧Below w.heap.size w wr∧w.heap.size+1≤wr.heap.size) (fun x8 _=>n-(intOf x8).toNat)
 case atStart=>exact ⟨0,by omega,by omega,rfl,aM,aL,cZ,dC⟩
 case round=>
  clear cZ dC aM aL;obtain⟨m,bE,hm,rfl,aA,aB,cE,cF⟩:=hrel;by_cases hltm:m<n
  ·
   have hd:decide ((m:Int)<(n:Int))=true:=decide_eq_true (by omega);have eA:=decide_eq_true hltm;obtain⟨kk,aT⟩:=E9 (gl ks m);have bE:m<ks.length:=by rw[←HN.out];exact hltm
   have cI:ks[m]?=some kk:=by rw[aT];unfold gl;rw[List.getElem?_eq_getElem bE];simp[bE]
   have cG:=dS.out kk (List.mem_of_getElem? cI);have HD:Hid (Q6 ks (m+1)=Ip [[3],Q6 ks m,kk]):=Lib.hid (by rw[aT];rfl);obtain⟨g,o,hA,hg,bI⟩:∃g o,A=some ⟨g,o,none⟩∧g<w.heap.size∧C8 w ⟨g,o+m*32,none⟩ 32=some (c8 kk):=by
    obtain⟨g,o,c',hh⟩:=HV.out.row;rcases hh with ⟨hr,_,hg,hA,_,_⟩ | h0
    ·injection hA with hA;exact ⟨g,o,hA,hg,hr m kk cI⟩
    ·rw[h0]at bE;simp at bE
   subst hA;have dT:=(N6 (a:=⟨g,o+m*32,none⟩) cE hg).trans bI;clear aT bE cI bI;obtain⟨V2,aN⟩:=E9 (wr.alloc (Obj.cells (c8 (z8 32)).toArray 23));have bJ:wr.heap.size=wr.heap.size:=rfl;have aC:Bk V2 (wr.heap.size) 23 (c8 (z8 32)):=by rw[aN,←bJ];exact Bk.new wr _ _
   have aO:=Ed aN aA;have aP:=Ed aN aB;have dD:=Uo aN cE;have aD:=Et bJ aA;have aE:=Et bJ aB;have bK:w.heap.size+1≤wr.heap.size:=by rw[←bJ];exact Nat.le_trans cF (Nat.le_refl _)
   clear bJ;obtain⟨V3,aU⟩:=E9 (C4 V2 ⟨wr.heap.size,0,none⟩ (c8 kk));have aF:=P8' 32 aU aC (by simp) cG;have aQ:=U1 aU aO (by omega);have aG:=U1 aU aP (by omega);have dF:=Iu aU dD (by omega);have cJ:=dT;have aR:=C8' 32 aC (by simp);rw[aN]at aR;have cK:kk.length=32:=cG;go_wp2_with fail;rw[←aN,←aU];clear cJ aR cK;obtain⟨p4,cL⟩:=E9 (wr.heap.size);rw[←cL]at aF aD aE bK;try rw[←cL]
   have dG:w.heap.size+1≤V3.heap.size:=by have hz:=cF;rw[aU,aN];first | (simp;omega) | (simp[World.setCell];omega)
   clear aN aU cL cF aO aP aC dD;have S5:=Kg V3;refine Jh (fun W=>True) ?_;refine Fs (A:=?eB) [1,2] trivial (fun W hW=>?dU) ?eC;case dU=>
    exact Gq
   refine N8 [zb 0 12 [3],zs 3 15 3 [[3],(Q6 ks m),kk],zv 4 16 (A8 (Ip [[3],(Q6 ks m),kk]))] (by kernel_rfl) (fun W hW=>trivial) ?bL ?bM ?bN;case bL=>exact MO'
   case bM=>
    refine (Z3 ⟨?cM,(Z3 ⟨?cN,(Z3 ⟨?cO,Zh⟩)⟩)⟩);case cM=>
     intro o ho us W hW hp Q' hQ';obtain rfl:=Option.some.inj ho;clear hp ho;rw[C1]at hQ' ⊢;dsimp only[C7,E5,List.foldl,zv,za,zs,zp,zb]at hQ' ⊢;simp only[Cy];go_wp2_with fail;exact Ea (hQ' _ _ (Bh _ _) (C1f W 3 _ rfl) nofun)
    case cN=>intro o ho us W hW hp Q' hQ';obtain rfl:=Option.some.inj ho;have aH:By W 0 W.heap.size (us 0) [3]:=hp 0 _ rfl (by kernel_rfl);obtain⟨A0,n0,c0,aV⟩:=aH.formE;rw[aV]at aH;have aH:=Lib.hid aH;clear hp ho;rw[C1]at hQ' ⊢;dsimp only[C7,E5,List.foldl,zv,za,zs,zp,zb]at hQ' ⊢;simp only[Cy];rw[aV]at hQ' ⊢;clear aV;have aI:=aG.drew.bl hW;have bO:=aF.drew.bl hW;go_wp2_with fail;exact Ea (hQ' _ _ (Bh _ _) ⟨_,rfl,(J7.three W _ _ _ _ [3] (Q6 ks m) kk aH.out (Bk.byAll (aI) (Ah ks m) (by decide)) (Bk.byAll (bO) cG (by decide))).more (by simp)⟩ nofun)
    case cO=>
     intro o ho us W hW hp Q' hQ';obtain rfl:=Option.some.inj ho;obtain⟨dI,bP,bQ⟩:=hp 1 _ rfl (by kernel_rfl);have bP:us 3=.slice (some ⟨dI,0,none⟩) 3 3:=bP;have bQ:J7 W W.heap.size (.slice (some ⟨dI,0,none⟩) 3 3) [[3],(Q6 ks m),kk]:=by rw[←bP];exact bQ
     have bQ:=Lib.hid bQ;clear hp ho;rw[C1]at hQ' ⊢;dsimp only[C7,E5,List.foldl,zv,za,zs,zp,zb]at hQ' ⊢;simp only[Cy];rw[bP]at hQ' ⊢;clear bP;go_wp2_with fail;refine (C1g _ [[3],(Q6 ks m),kk] W bQ.out (C0l rfl (Ah ks m) cG (by decide))).mono ?_;rintro e W2 ⟨rfl,b2⟩;go_wp2_with fail;exact Ea (hQ' _ _ b2 rfl nofun)
   case bN=>
   intro us W6 b7 hg aW cP;have bR:By W6 0 W6.heap.size (us 0) [3]:=hg _ (Ca 0 rfl);have bR:=Lib.hid bR;have bF:us 4=(A8 (Ip [[3],(Q6 ks m),kk])):=hg _ (Ca 2 rfl);have b8:=Q5 S5 b7;refine RG' ?_;rw[bF];clear hg aW cP bF b7 S5;have B6:=Q5 dF b8;have z6:=Nat.le_trans dG b8.size;have bS:=aQ.bl b8;have aX:=aG.bl b8;clear b8 dF dG aQ aG aF;obtain⟨W9,bG⟩:=E9 (C4 W6 ⟨w.heap.size+1,0,none⟩ (c8 (Ip [[3],(Q6 ks m),kk])));have cQ:Bk W9 (w.heap.size+1) 23 (c8 (Ip [[3],(Q6 ks m),kk])):=by rw[bG];exact Bk.put8 (aX) ((Ah ks m)) ((Bi [[3],(Q6 ks m),kk]))
   have cR:=U1 bG bS (by omega);have B9:=Iu bG B6 (by omega);have bT:=C8' 32 aX (Ah ks m);have bU:(Ip [[3],(Q6 ks m),kk]).length=32:=(Bi [[3],(Q6 ks m),kk]);refine Ci 5 fun Q' hQ'=>?_;dsimp only[C7];go_wp2_with fail;rw[←bG];refine hQ' _ _ trivial ?_;clear hQ' bT bU;have z9:=ZP' bG z6;clear bG B6 z6 bS aX;refine It ?_;go_wp2_with fail;go_roundw;case rel=>exact ⟨m+1,by omega,by omega,by go_num,cR,(by rw[HD.out];exact cQ),B9,z9⟩
   case measure=>simp[intOf];omega
  ·
   obtain rfl:n=m:=by omega
   go_wp2_with fail;have dJ:=Kg wr;refine Jh (fun W=>True) ?_;refine Fs (A:=?dW) [1,2,3,5] trivial (fun W hW=>?cS) ?dX;case cS=>
    exact Gq
   refine N8 [zb 0 18 [2],zb 4 22 (P9 (UInt64.ofNat n)),zs 6 24 3 [[2],(P9 (UInt64.ofNat n)),(Q6 ks n)],zv 7 25 (A8 (Ip [[2],(P9 (UInt64.ofNat n)),(Q6 ks n)]))] (by kernel_rfl) (fun W hW=>trivial) ?aY ?aZ ?bA;case aY=>exact MO'
   case aZ=>
    refine (Z3 ⟨?bV,(Z3 ⟨?bX,(Z3 ⟨?bY,(Z3 ⟨?bZ,Zh⟩)⟩)⟩)⟩);case bV=>
     intro o ho us W hW hp Q' hQ';obtain rfl:=Option.some.inj ho;clear hp ho;rw[C1]at hQ' ⊢;dsimp only[C7,E5,List.foldl,zv,za,zs,zp,zb]at hQ' ⊢;simp only[Cy];go_wp2_with fail;exact Ea (hQ' _ _ (Bh _ _) (C1f W 2 _ rfl) nofun)
    case bX=>intro o ho us W hW hp Q' hQ';obtain rfl:=Option.some.inj ho;clear hp ho;rw[C1]at hQ' ⊢;dsimp only[C7,E5,List.foldl,zv,za,zs,zp,zb]at hQ' ⊢;simp only[Cy];go_wp2_with fail;refine (Rj (.slice none 0 0) [] (UInt64.ofNat n) W (.inl ⟨rfl,rfl⟩) (by simp)).mono ?_;rintro e W2 ⟨v2,rfl,cT,b2⟩;have cT:=Lib.hid cT;go_wp2_with fail;exact Ea (hQ' _ _ b2 cT.out.up nofun)
    case bY=>intro o ho us W hW hp Q' hQ';obtain rfl:=Option.some.inj ho;have aH:By W 0 W.heap.size (us 0) [2]:=hp 0 _ rfl (by kernel_rfl);obtain⟨A0,n0,c0,aV⟩:=aH.formE;rw[aV]at aH;have aH:=Lib.hid aH;have aS:By W 0 W.heap.size (us 4) (P9 (UInt64.ofNat n)):=hp 1 _ rfl (by kernel_rfl);obtain⟨A4,n4,c4,bF⟩:=aS.formE;rw[bF]at aS;have aS:=Lib.hid aS;clear hp ho;rw[C1]at hQ' ⊢;dsimp only[C7,E5,List.foldl,zv,za,zs,zp,zb]at hQ' ⊢;simp only[Cy];rw[aV,bF]at hQ' ⊢;clear aV bF;have aI:=aB.drew.bl hW;go_wp2_with fail;exact Ea (hQ' _ _ (Bh _ _) ⟨_,rfl,(J7.three W _ _ _ _ [2] (P9 (UInt64.ofNat n)) (Q6 ks n) aH.out aS.out (Bk.byAll (aI) (Ah ks n) (by decide))).more (by simp)⟩ nofun)
    case bZ=>
     intro o ho us W hW hp Q' hQ';obtain rfl:=Option.some.inj ho;have aS:By W 0 W.heap.size (us 4) (P9 (UInt64.ofNat n)):=hp 1 _ rfl (by kernel_rfl);have aS:=Lib.hid aS;obtain⟨dK,cA,cB⟩:=hp 2 _ rfl (by kernel_rfl);have cA:us 6=.slice (some ⟨dK,0,none⟩) 3 3:=cA;have cB:J7 W W.heap.size (.slice (some ⟨dK,0,none⟩) 3 3) [[2],(P9 (UInt64.ofNat n)),(Q6 ks n)]:=by rw[←cA];exact cB
     have cB:=Lib.hid cB;clear hp ho;rw[C1]at hQ' ⊢;dsimp only[C7,E5,List.foldl,zv,za,zs,zp,zb]at hQ' ⊢;simp only[Cy];rw[cA]at hQ' ⊢;clear cA;go_wp2_with fail;refine (C1g _ [[2],(P9 (UInt64.ofNat n)),(Q6 ks n)] W cB.out (C0l rfl (A0q (UInt64.ofNat n)) (Ah ks n) (by decide))).mono ?_;rintro e W2 ⟨rfl,b2⟩;go_wp2_with fail;exact Ea (hQ' _ _ b2 rfl nofun)
   case bA=>
   intro us cC dL hg aW cP;have bR:By cC 0 cC.heap.size (us 0) [2]:=hg _ (Ca 0 rfl);have bR:=Lib.hid bR;have dM:By cC 0 cC.heap.size (us 4) (P9 (UInt64.ofNat n)):=hg _ (Ca 1 rfl);have dM:=Lib.hid dM;have dN:us 7=(A8 (Ip [[2],(P9 (UInt64.ofNat n)),(Q6 ks n)])):=hg _ (Ca 3 rfl);have cU:=Q5 dJ dL;refine RG' ?_;rw[dN];clear hg aW cP dN dL dJ;have dO:=Q5 cE cU;have aJ:=aA.bl cU;clear cU cE cF aA aB;obtain⟨eD,aK⟩:=E9 (C4 cC ⟨w.heap.size,0,none⟩ (c8 (Ip [[2],(P9 (UInt64.ofNat n)),(Q6 ks n)])));have cD:=P8' 32 aK aJ (by simp) (Bi [[2],(P9 (UInt64.ofNat n)),(Q6 ks n)]);have dY:=Iu aK dO (by omega);have bB:=C8' 32 aJ (by simp);have bC:(Ip [[2],(P9 (UInt64.ofNat n)),(Q6 ks n)]).length=32:=(Bi [[2],(P9 (UInt64.ofNat n)),(Q6 ks n)]);refine Ci 8 fun Q' hQ'=>?_;dsimp only[C7];go_wp2_with fail;rw[←aK];refine hQ' _ _ trivial ?_;clear hQ' bB bC;clear aK dO aJ;refine It ?_;go_wp2_with fail;have cV:(Ip [[2],(P9 (UInt64.ofNat n)),(Q6 ks n)]).length=32:=(Bi [[2],(P9 (UInt64.ofNat n)),(Q6 ks n)]);refine bodyPost_ret (C5 rfl _ _ _ _ _ _ rfl cD Tryz.underlying23 rfl (by simp[J9,cV])) rfl ⟨by rw[HE.out];rfl,dY⟩
theorem Hs.at_ {w:World} {B:Nat} {A:Option Addr} {n c:Nat} {ks:List (List UInt8)} (h:Hs w 0 B (.slice A n c) ks) {m:Nat} {k:List UInt8} (hk:ks[m]?=some k):∃g o,A=some ⟨g,o,none⟩∧g<B∧C8 w ⟨g,o+m*32,none⟩ 32=some (c8 k):=by
 obtain⟨g,o,c',hh⟩:=h.row;rcases hh with ⟨hr,_,hg,hA,_,_⟩ | h0
 ·injection hA with hA;exact ⟨g,o,hA,hg,hr m k hk⟩
 ·rw[h0]at hk;simp at hk
theorem Yg (va vb:Value) (ks:List (List UInt8)) (w:World) (ha:Hs w 0 w.heap.size va ks) (hb:Hs w 0 w.heap.size vb ks):Calls Tryz.prog 12 #[va,vb] w fun e w'=>e=.returned (.bool true)∧Below w.heap.size w w':=by
 obtain⟨A,c,rfl,aE,aI⟩:=ha.form;obtain⟨A',c',rfl,aA,aF⟩:=hb.form;have HA:=Lib.hid ha;have HB:=Lib.hid hb;have aG:=Lib.hid ha.1;obtain⟨n,hn⟩:=E9 (ks.length);have HN:=Lib.hid hn;rw[←hn]at aE aA HA HB ⊢;clear ha hb hn;go_enter Tryz.func12,Tryz.ntmps12;go_wp2_with fail;go_loopw [13] (fun x wr=>∃m:Nat,m≤n∧x=.int .i64 (m:Int)∧Below w.heap.size w wr) (fun x _=>n-(intOf x).toNat)
 case atStart=>exact ⟨0,by omega,rfl,Below.refl _ _⟩
 case round=>
  obtain⟨m,hm,rfl,Br⟩:=hrel;by_cases hlt:m<n
  ·have hd:decide ((m:Int)<(n:Int))=true:=decide_eq_true (by omega);have aB:m<ks.length:=by rw[←HN.out];exact hlt
   obtain⟨k,hk⟩:∃k,ks[m]?=some k:=⟨_,List.getElem?_eq_getElem aB⟩;have aJ:=aG.out k (List.mem_of_getElem? hk);obtain⟨g,o,rfl,hg,hr⟩:=HA.out.at_ hk;obtain⟨g',o',rfl,aH,aC⟩:=HB.out.at_ hk;have r1:=(N6 (a:=⟨g,o+m*32,none⟩) Br hg).trans hr;have r2:=(N6 (a:=⟨g',o'+m*32,none⟩) Br aH).trans aC;have aD:(m:Int)<(n:Int):=by omega
   clear hk hr aC aB;go_wp2_with fail;go_quiet (fail);go_wp2_with fail;go_roundw;case rel=>exact ⟨m+1,by omega,by go_num,K9 Br _⟩
   case measure=>simp[intOf];omega
  ·obtain rfl:m=n:=by omega
   go_wp2_with fail;go_ret;exact ⟨rfl,Br⟩
theorem C0q (v:Value) (ls:List (List UInt8)) (w:World) (hp:J7 w w.heap.size v ls) (hsz:ls.flatten.length≤1099511627776) :
 Calls Tryz.prog 58 #[v] w fun e w'=>e=.returned (A8 (Ip ls))∧Below w.heap.size w w':=Wg v ls w hp hsz
theorem B0h (v:Value) (ks:List (List UInt8)) (w:World) (hv:Hs w 0 w.heap.size v ks) (hkn:ks.length≤1000000):Calls Tryz.prog 37 #[v] w fun e w'=>e=.returned (A8 (Dd ks))∧Below w.heap.size w w':=by
 obtain⟨A,c,rfl,dX,eH⟩:=hv.form;have HV:=Lib.hid hv;have dC:=hv.1;obtain⟨n,hn⟩:=E9 (ks.length);have hw:IntKind.u64.wrap (n:Int)=F0 (UInt64.ofNat n):=by rw[Gb];unfold F0;simp
 have HN:=Lib.hid hn;rw[←hn]at dX hkn ⊢;have dY:=Lib.hid dC;clear hv dC hn;have HE:Hid (Dd ks=Ip [[2],P9 (UInt64.ofNat n),Q6 ks n]):=Lib.hid (by rw[HN.out];rfl);obtain⟨W0,cL⟩:=E9 ((w.alloc (Obj.cells (c8 (z8 32)).toArray 23)));have hL:W0=O8 w [(23,(c8 (z8 32)))]:=cL;have B0:=Rf hL;have bO:=Um hL rfl;have z0:=ZL' 1 hL rfl;have dD:=SL' 1 hL rfl;clear hL;obtain⟨V1,aX⟩:=E9 (W0.alloc (Obj.cells (c8 (z8 32)).toArray 23));have dF:W0.heap.size=w.heap.size+1:=dD;have aD:Bk V1 (w.heap.size+1) 23 (c8 (z8 32)):=by rw[aX,←dF];exact Bk.new W0 _ _
 have aN:=Ed aX bO;have dG:=Uo aX B0;clear dF;obtain⟨V2,bL⟩:=E9 (C4 V1 ⟨w.heap.size+1,0,none⟩ (c8 (z8 32)));have aO:=P8' 32 bL aD (by simp) (by simp);have aP:=U1 bL aN (by omega);have dI:=Iu bL dG (by omega);have aQ:=C8' 32 aD (by simp);rw[aX,cL]at aQ;have aY:(z8 32).length=32:=(show (z8 32).length=32 from by simp);go_enter Tryz.func37,Tryz.ntmps37;go_wp2_with fail;rw[←cL,←aX,←bL];clear aQ aY;have dJ:w.heap.size+1≤V2.heap.size:=by have hz:=z0;rw[bL,aX];first | (simp;omega) | (simp[World.setCell];omega)
 clear cL aX bL dD bO B0 z0 aN aD dG;go_loopw [9] (fun x9 wr=>∃m:Nat,0≤m∧m≤n∧x9=.int .i64 (m:Int)∧Bk wr (w.heap.size) 23 (c8 (z8 32))∧Bk wr (w.heap.size+1) 23 (c8 (Q6 ks m))∧Below w.heap.size w wr∧w.heap.size+1≤wr.heap.size) (fun x9 _=>n-(intOf x9).toNat)
 case atStart=>exact ⟨0,by omega,by omega,rfl,aP,aO,dI,dJ⟩
 case round=>
  clear dI dJ aP aO;obtain⟨m,bM,hm,rfl,aA,aB,cM,cN⟩:=hrel;by_cases hltm:m<n
  ·
   have hd:decide ((m:Int)<(n:Int))=true:=decide_eq_true (by omega);have eI:=decide_eq_true hltm;obtain⟨kk,aZ⟩:=E9 (gl ks m);have bM:m<ks.length:=by rw[←HN.out];exact hltm
   have cP:ks[m]?=some kk:=by rw[aZ];unfold gl;rw[List.getElem?_eq_getElem bM];simp[bM]
   have cO:=dY.out kk (List.mem_of_getElem? cP);have HD:Hid (Q6 ks (m+1)=Ip [[3],Q6 ks m,kk]):=Lib.hid (by rw[aZ];rfl);obtain⟨g,o,hA,hg,bP⟩:∃g o,A=some ⟨g,o,none⟩∧g<w.heap.size∧C8 w ⟨g,o+m*32,none⟩ 32=some (c8 kk):=by
    obtain⟨g,o,c',hh⟩:=HV.out.row;rcases hh with ⟨hr,_,hg,hA,_,_⟩ | h0
    ·injection hA with hA;exact ⟨g,o,hA,hg,hr m kk cP⟩
    ·rw[h0]at bM;simp at bM
   subst hA;have dZ:=(N6 (a:=⟨g,o+m*32,none⟩) cM hg).trans bP;clear aZ bM cP bP;obtain⟨V3,aR⟩:=E9 (wr.alloc (Obj.cells (c8 (z8 32)).toArray 23));have bQ:wr.heap.size=wr.heap.size:=rfl;have aE:Bk V3 (wr.heap.size) 23 (c8 (z8 32)):=by rw[aR,←bQ];exact Bk.new wr _ _
   have aS:=Ed aR aA;have aT:=Ed aR aB;have dK:=Uo aR cM;have aF:=Et bQ aA;have aG:=Et bQ aB;have bR:w.heap.size+1≤wr.heap.size:=by rw[←bQ];exact Nat.le_trans cN (Nat.le_refl _)
   clear bQ;obtain⟨V4,bA⟩:=E9 (C4 V3 ⟨wr.heap.size,0,none⟩ (c8 kk));have aH:=P8' 32 bA aE (by simp) cO;have aU:=U1 bA aS (by omega);have aI:=U1 bA aT (by omega);have dL:=Iu bA dK (by omega);have cQ:=dZ;have aV:=C8' 32 aE (by simp);rw[aR]at aV;have aY:kk.length=32:=cO;go_wp2_with fail;rw[←aR,←bA];clear cQ aV aY;obtain⟨p5,cR⟩:=E9 (wr.heap.size);rw[←cR]at aH aF aG bR;try rw[←cR]
   have dM:w.heap.size+1≤V4.heap.size:=by have hz:=cN;rw[bA,aR];first | (simp;omega) | (simp[World.setCell];omega)
   clear aR bA cR cN aS aT aE dK;have S6:=Kg V4;refine Jh (fun W=>True) ?_;refine Fs (A:=?eJ) [1,2] trivial (fun W hW=>?eA) ?eK;case eA=>
    exact Gq
   refine N8 [zb 0 13 [3],zs 3 16 3 [[3],(Q6 ks m),kk],zv 4 17 (A8 (Ip [[3],(Q6 ks m),kk]))] (by kernel_rfl) (fun W hW=>trivial) ?bS ?bT ?bU;case bS=>exact MO'
   case bT=>
    refine (Z3 ⟨?cS,(Z3 ⟨?cT,(Z3 ⟨?cU,Zh⟩)⟩)⟩);case cS=>
     intro o ho us W hW hp Q' hQ';obtain rfl:=Option.some.inj ho;clear hp ho;rw[C1]at hQ' ⊢;dsimp only[C7,E5,List.foldl,zv,za,zs,zp,zb]at hQ' ⊢;simp only[Cy];go_wp2_with fail;exact Ea (hQ' _ _ (Bh _ _) (C1f W 3 _ rfl) nofun)
    case cT=>intro o ho us W hW hp Q' hQ';obtain rfl:=Option.some.inj ho;have aJ:By W 0 W.heap.size (us 0) [3]:=hp 0 _ rfl (by kernel_rfl);obtain⟨A0,n0,c0,bB⟩:=aJ.formE;rw[bB]at aJ;have aJ:=Lib.hid aJ;clear hp ho;rw[C1]at hQ' ⊢;dsimp only[C7,E5,List.foldl,zv,za,zs,zp,zb]at hQ' ⊢;simp only[Cy];rw[bB]at hQ' ⊢;clear bB;have aK:=aI.drew.bl hW;have bV:=aH.drew.bl hW;go_wp2_with fail;exact Ea (hQ' _ _ (Bh _ _) ⟨_,rfl,(J7.three W _ _ _ _ [3] (Q6 ks m) kk aJ.out (Bk.byAll (aK) (Ah ks m) (by decide)) (Bk.byAll (bV) cO (by decide))).more (by simp)⟩ nofun)
    case cU=>
     intro o ho us W hW hp Q' hQ';obtain rfl:=Option.some.inj ho;obtain⟨dN,bX,bY⟩:=hp 1 _ rfl (by kernel_rfl);have bX:us 3=.slice (some ⟨dN,0,none⟩) 3 3:=bX;have bY:J7 W W.heap.size (.slice (some ⟨dN,0,none⟩) 3 3) [[3],(Q6 ks m),kk]:=by rw[←bX];exact bY
     have bY:=Lib.hid bY;clear hp ho;rw[C1]at hQ' ⊢;dsimp only[C7,E5,List.foldl,zv,za,zs,zp,zb]at hQ' ⊢;simp only[Cy];rw[bX]at hQ' ⊢;clear bX;go_wp2_with fail;refine (C0q _ [[3],(Q6 ks m),kk] W bY.out (C0l rfl (Ah ks m) cO (by decide))).mono ?_;rintro e W2 ⟨rfl,b2⟩;go_wp2_with fail;exact Ea (hQ' _ _ b2 rfl nofun)
   case bU=>
   intro us W7 b8 hg bC cV;have bZ:By W7 0 W7.heap.size (us 0) [3]:=hg _ (Ca 0 rfl);have bZ:=Lib.hid bZ;have bN:us 4=(A8 (Ip [[3],(Q6 ks m),kk])):=hg _ (Ca 2 rfl);have b9:=Q5 S6 b8;refine RG' ?_;rw[bN];clear hg bC cV bN b8 S6;have B7:=Q5 dL b9;have z7:=Nat.le_trans dM b9.size;have cA:=aU.bl b9;have bD:=aI.bl b9;clear b9 dL dM aU aI aH;obtain⟨eB,aC⟩:=E9 (C4 W7 ⟨w.heap.size+1,0,none⟩ (c8 (Ip [[3],(Q6 ks m),kk])));have cB:Bk eB (w.heap.size+1) 23 (c8 (Ip [[3],(Q6 ks m),kk])):=by rw[aC];exact Bk.put8 (bD) ((Ah ks m)) ((Bi [[3],(Q6 ks m),kk]))
   have cC:=U1 aC cA (by omega);have eC:=Iu aC B7 (by omega);have bE:=C8' 32 bD (Ah ks m);have bF:(Ip [[3],(Q6 ks m),kk]).length=32:=(Bi [[3],(Q6 ks m),kk]);refine Ci 5 fun Q' hQ'=>?_;dsimp only[C7];go_wp2_with fail;rw[←aC];refine hQ' _ _ trivial ?_;clear hQ' bE bF;have eD:=ZP' aC z7;clear aC B7 z7 cA bD;refine It ?_;go_wp2_with fail;go_roundw;case rel=>exact ⟨m+1,by omega,by omega,by go_num,cC,(by rw[HD.out];exact cB),eC,eD⟩
   case measure=>simp[intOf];omega
  ·
   obtain rfl:n=m:=by omega
   go_wp2_with fail;have dO:=Kg wr;refine Jh (fun W=>True) ?_;refine Fs (A:=?eE) [1,2,3,5] trivial (fun W hW=>?cW) ?eF;case cW=>
    exact Gq
   refine N8 [zb 0 19 [2],zb 4 23 (P9 (UInt64.ofNat n)),zs 6 25 3 [[2],(P9 (UInt64.ofNat n)),(Q6 ks n)],zv 7 26 (A8 (Ip [[2],(P9 (UInt64.ofNat n)),(Q6 ks n)]))] (by kernel_rfl) (fun W hW=>trivial) ?bG ?bH ?bI;case bG=>exact MO'
   case bH=>
    refine (Z3 ⟨?cD,(Z3 ⟨?cE,(Z3 ⟨?cF,(Z3 ⟨?cG,Zh⟩)⟩)⟩)⟩);case cD=>
     intro o ho us W hW hp Q' hQ';obtain rfl:=Option.some.inj ho;clear hp ho;rw[C1]at hQ' ⊢;dsimp only[C7,E5,List.foldl,zv,za,zs,zp,zb]at hQ' ⊢;simp only[Cy];go_wp2_with fail;exact Ea (hQ' _ _ (Bh _ _) (C1f W 2 _ rfl) nofun)
    case cE=>intro o ho us W hW hp Q' hQ';obtain rfl:=Option.some.inj ho;clear hp ho;rw[C1]at hQ' ⊢;dsimp only[C7,E5,List.foldl,zv,za,zs,zp,zb]at hQ' ⊢;simp only[Cy];go_wp2_with fail;refine (B1n (UInt64.ofNat n) W).mono ?_;rintro e W2 ⟨v2,rfl,cX,b2⟩;have cX:=Lib.hid cX;go_wp2_with fail;exact Ea (hQ' _ _ b2 cX.out.up nofun)
    case cF=>intro o ho us W hW hp Q' hQ';obtain rfl:=Option.some.inj ho;have aJ:By W 0 W.heap.size (us 0) [2]:=hp 0 _ rfl (by kernel_rfl);obtain⟨A0,n0,c0,bB⟩:=aJ.formE;rw[bB]at aJ;have aJ:=Lib.hid aJ;have aW:By W 0 W.heap.size (us 4) (P9 (UInt64.ofNat n)):=hp 1 _ rfl (by kernel_rfl);obtain⟨A4,n4,c4,bN⟩:=aW.formE;rw[bN]at aW;have aW:=Lib.hid aW;clear hp ho;rw[C1]at hQ' ⊢;dsimp only[C7,E5,List.foldl,zv,za,zs,zp,zb]at hQ' ⊢;simp only[Cy];rw[bB,bN]at hQ' ⊢;clear bB bN;have aK:=aB.drew.bl hW;go_wp2_with fail;exact Ea (hQ' _ _ (Bh _ _) ⟨_,rfl,(J7.three W _ _ _ _ [2] (P9 (UInt64.ofNat n)) (Q6 ks n) aJ.out aW.out (Bk.byAll (aK) (Ah ks n) (by decide))).more (by simp)⟩ nofun)
    case cG=>
     intro o ho us W hW hp Q' hQ';obtain rfl:=Option.some.inj ho;have aW:By W 0 W.heap.size (us 4) (P9 (UInt64.ofNat n)):=hp 1 _ rfl (by kernel_rfl);have aW:=Lib.hid aW;obtain⟨dQ,cH,cI⟩:=hp 2 _ rfl (by kernel_rfl);have cH:us 6=.slice (some ⟨dQ,0,none⟩) 3 3:=cH;have cI:J7 W W.heap.size (.slice (some ⟨dQ,0,none⟩) 3 3) [[2],(P9 (UInt64.ofNat n)),(Q6 ks n)]:=by rw[←cH];exact cI
     have cI:=Lib.hid cI;clear hp ho;rw[C1]at hQ' ⊢;dsimp only[C7,E5,List.foldl,zv,za,zs,zp,zb]at hQ' ⊢;simp only[Cy];rw[cH]at hQ' ⊢;clear cH;go_wp2_with fail;refine (C0q _ [[2],(P9 (UInt64.ofNat n)),(Q6 ks n)] W cI.out (C0l rfl (A0q (UInt64.ofNat n)) (Ah ks n) (by decide))).mono ?_;rintro e W2 ⟨rfl,b2⟩;go_wp2_with fail;exact Ea (hQ' _ _ b2 rfl nofun)
   case bI=>
   intro us cJ dS hg bC cV;have bZ:By cJ 0 cJ.heap.size (us 0) [2]:=hg _ (Ca 0 rfl);have bZ:=Lib.hid bZ;have dT:By cJ 0 cJ.heap.size (us 4) (P9 (UInt64.ofNat n)):=hg _ (Ca 1 rfl);have dT:=Lib.hid dT;have dU:us 7=(A8 (Ip [[2],(P9 (UInt64.ofNat n)),(Q6 ks n)])):=hg _ (Ca 3 rfl);have cY:=Q5 dO dS;refine RG' ?_;rw[dU];clear hg bC cV dU dS dO;have dW:=Q5 cM cY;have aL:=aA.bl cY;clear cY cM cN aA aB;obtain⟨eL,aM⟩:=E9 (C4 cJ ⟨w.heap.size,0,none⟩ (c8 (Ip [[2],(P9 (UInt64.ofNat n)),(Q6 ks n)])));have cK:=P8' 32 aM aL (by simp) (Bi [[2],(P9 (UInt64.ofNat n)),(Q6 ks n)]);have eG:=Iu aM dW (by omega);have bJ:=C8' 32 aL (by simp);have bK:(Ip [[2],(P9 (UInt64.ofNat n)),(Q6 ks n)]).length=32:=(Bi [[2],(P9 (UInt64.ofNat n)),(Q6 ks n)]);refine Ci 8 fun Q' hQ'=>?_;dsimp only[C7];go_wp2_with fail;rw[←aM];refine hQ' _ _ trivial ?_;clear hQ' bJ bK;clear aM dW aL;refine It ?_;go_wp2_with fail;have cZ:(Ip [[2],(P9 (UInt64.ofNat n)),(Q6 ks n)]).length=32:=(Bi [[2],(P9 (UInt64.ofNat n)),(Q6 ks n)]);refine bodyPost_ret (C5 rfl _ _ _ _ _ _ rfl cK Tryz.underlying23 rfl (by simp[J9,cZ])) rfl ⟨by rw[HE.out];rfl,eG⟩
end Go.Proofs.YtlegpkdighoflaaGreat
