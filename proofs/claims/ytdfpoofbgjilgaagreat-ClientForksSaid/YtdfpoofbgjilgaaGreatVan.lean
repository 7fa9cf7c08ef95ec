/- A part of the proof of ClientForks. -/
import Derived.Test.YtdfpoofbgjilgaaGreatVai
import Derived.Test.YtdfpoofbgjilgaaGreatVak
import Derived.Test.YtdfpoofbgjilgaaGreatVam
set_option linter.unusedVariables false
set_option linter.unusedSimpArgs false
set_option maxRecDepth 100000
set_option maxHeartbeats 40000000
namespace Go.Proofs.YtdfpoofbgjilgaaGreat
open Go Go.RowKit Sh
section
def Da (P:Program) (s:St):ResultVar→Option (Bool×List Sg)
 | .tmp t=>match s.σ[t]? with
  | some (.v a l)=>some (a,l)
  | _=>none
 | .cell t T=>do
  let (b,f) ←(s.σ[t]?).bind Gv
  let (_,cs) ←s.blk b
  let n ←Gt P T
  let a ←Ti P T
  let l ←Vs cs f n
  if (!a&&l.length != 1)||n==0||(!a&&n != 1) then none else some (a,l)
def C1s (P:Program) (s:St):List ResultVar→Option SV
 | []=>some (.tup [])
 | [r]=>(Da P s r).map fun x=>.v x.1 x.2
 | [r1,r2]=>do let x ←Da P s r1;let y ←Da P s r2;some (.tup [x,y])
 | [r1,r2,r3]=>do let x ←Da P s r1;let y ←Da P s r2;let z ←Da P s r3;some (.tup [x,y,z])
 | _=>none
def Lk (σ:List SV) (n:Nat):St:=⟨σ++List.replicate (n-σ.length) (.v false [.c undef]),[],[]⟩
def nm0:Nat→Nm:=fun _=>⟨0,jnk,rfl⟩
def Dep.post (ρ:List Av) (Φ:Fcts) (d:Dep) (lo:Nat) (μ:Nat→Nm) (W:World):Prop:=
 d.bs.foldr (fun x p=>(Bk W (μ x.1).b x.2.1 (cellsL ρ μ x.2.2)∧lo≤(μ x.1).b)∧p) (d.ds.foldr (fun n p=>Φ.at n μ W∧p) True)
def B0x (w w' W:World):Prop:=w'.heap.size≤W.heap.size∧∀k,w.heap.size≤k→k<w'.heap.size→W.heap[k]?=w'.heap[k]?
def D6p (P:Program) (g:Cfg) (fuel:Nat) (fn:Func) (ρ:List Av):Option (Array Value×List Eqn×((Nat→Nm)→Value)×(Nat→(Nat→Nm)→World→Prop)×Bool):=
 match fn.body,Hc P g 0 fn.params.toList with
 | some c,some (ps,na)=>match A2z P g ρ fuel c (Lk (ps.map fun x=>.v x.1 x.2) fn.ntmps) na with
  | some (.ext _,_,_,_)=>none
  | some (_,s',_,qs)=>match C1s P s' fn.results.toList with
   | some r=>some ((ps.map fun x=>cv ρ nm0 x.1 x.2).toArray,qs.map (Rq.eqn ρ g.f),fun μ=>r.val ρ μ,fun lo μ W=>(Hy s' g.f.sup [r]).post ρ g.f lo μ W,(Hy s' g.f.sup [r]).ds.isEmpty)
   | none=>none
  | none=>none
 | _,_=>none
def E5i (tmps:Array Value):ResultVar→Sem Value
 | .tmp t=>pure (tmps.getD t undef)
 | .cell b t=>do loadVar t (←asAddr (tmps.getD b undef))
section
variable {P : Program} {g : Cfg} {ρ : List Av}
theorem B4c (fn:Func) (tmps:Array Value):results fn tmps=(do let vs ←fn.results.mapM (E5i tmps);pure (if h:vs.size=1 then vs[0] else .tuple vs)):=by
 unfold results;congr 1
theorem A8y {x:SV} {b o:Nat} (h:Gv x=some (b,o)):x.known=true:=by
 cases x with
 | v a l=>rfl
 | tup l=>rfl
 | any=>cases h
theorem Er {s:St} {μ:Nat→Nm} {Φ:Fcts} {S:World→Prop} {a:Act} {w:World} {r:ResultVar} {x:Bool×List Sg} (hR:Rel ρ Φ S s μ a w) (h:Da P s r=some x) :
 (E5i a.tmps r).run P w=.ok (cv ρ μ x.1 x.2) w:=by
 cases r with
 | tmp t=>
  simp only[Da]at h;split at h
  ·rename_i ag l hx
   cases h;have:=hR.tm t _ hx rfl;show Result.ok (a.tmps.getD t undef) w=_;rw[this];rfl
  ·cases h
 | cell t T=>
  simp only[Da,bind,Option.bind]at h;cases hx:s.σ[t]? with
  | none=>rw[hx]at h;cases h
  | some y=>
   rw[hx]at h;simp only at h;cases hp:Gv y with
   | none=>rw[hp]at h;cases h
   | some bf=>
    obtain⟨b,f⟩:=bf;rw[hp]at h;simp only at h;cases hb:s.blk b with
    | none=>rw[hb]at h;cases h
    | some Tc=>
     obtain⟨T',cs⟩:=Tc;rw[hb]at h;simp only at h;cases hs:Gt P T with
     | none=>rw[hs]at h;cases h
     | some n=>
      rw[hs]at h;simp only at h;cases ha:Ti P T with
      | none=>rw[ha]at h;cases h
      | some ag=>
       rw[ha]at h;simp only at h;cases hc:Vs cs f n with
       | none=>rw[hc]at h;cases h
       | some l=>
        rw[hc]at h;simp only at h;split at h
        ·cases h
        ·rename_i hcond
         cases h;have h1:=A4u (P:=P) (w:=w) (t:=T) (hR.bl b T' cs hb) hs ha hc (by intro h0;subst h0;simp at hcond) (by intro h0;subst h0;simp at hcond;exact ⟨hcond.1.1,hcond.2⟩);have h2:=hR.tm t _ hx (A8y hp);rw[Gr hp]at h2;show (do loadVar T (←asAddr (a.tmps.getD t undef)):Sem Value).run P w=_;rw[h2];exact h1
theorem B1o {fn:Func} {s:St} {μ:Nat→Nm} {Φ:Fcts} {S:World→Prop} {a:Act} {w:World} {r:SV} (hR:Rel ρ Φ S s μ a w) (h:C1s P s fn.results.toList=some r):(results fn a.tmps).run P w=.ok (r.val ρ μ) w:=by
 have hl:fn.results=fn.results.toList.toArray:=by simp
 generalize fn.results.toList=rs at h hl;rw[B4c,hl];unfold C1s at h;split at h
 ·cases h;simp[SV.val]
 ·rename_i r1
  cases h1:Da P s r1 with
  | none=>rw[h1]at h;cases h
  | some x=>
   rw[h1]at h;cases h;simp[Er hR h1,SV.val]
 ·rename_i r1 r2
  simp only[bind,Option.bind]at h;cases h1:Da P s r1 with
  | none=>rw[h1]at h;cases h
  | some x=>
   rw[h1]at h;simp only at h;cases h2:Da P s r2 with
   | none=>rw[h2]at h;cases h
   | some y=>
    rw[h2]at h;cases h;simp[Er hR h1,Er hR h2,SV.val]
 ·rename_i r1 r2 r3
  simp only[bind,Option.bind]at h;cases h1:Da P s r1 with
  | none=>rw[h1]at h;cases h
  | some x=>
   rw[h1]at h;simp only at h;cases h2:Da P s r2 with
   | none=>rw[h2]at h;cases h
   | some y=>
    rw[h2]at h;simp only at h;cases h3:Da P s r3 with
    | none=>rw[h3]at h;cases h
    | some z=>
     rw[h3]at h;cases h;simp[Er hR h1,Er hR h2,Er hR h3,SV.val]
 ·cases h
theorem A4h {Φ:Fcts} {xs:List (Bool×List Sg)} {n:Nat} (hn:(xs.all fun y=>y.2.all (·.okn fun _=>false))=true) (w:World) :
 Rel ρ Φ (fun W=>Below w.heap.size w W) (Lk (xs.map fun x=>.v x.1 x.2) n) nm0 { tmps:=(xs.map fun x=>cv ρ nm0 x.1 x.2).toArray++Array.replicate (n-(xs.map fun x=>cv ρ nm0 x.1 x.2).toArray.size) undef,defers:=[] } w:=by
 have aA:∀b,(Lk (xs.map fun x=>SV.v x.1 x.2) n).blk b=none:=fun b=>rfl;have hσ:∀(t:Nat) x,(Lk (xs.map fun x=>SV.v x.1 x.2) n).σ[t]?=some x→(∃y,xs[t]?=some y∧x=.v y.1 y.2)∨(xs.length≤t∧t<xs.length+(n-xs.length)∧x=.v false [.c undef]):=by
  intro t x hx;simp only[Lk]at hx;rcases Nat.lt_or_ge t xs.length with h | h
  ·rw[List.getElem?_append_left (by simpa using h)]at hx;simp only[List.getElem?_map,Option.map_eq_some_iff]at hx;obtain⟨y,h1,h2⟩:=hx;exact .inl ⟨y,h1,h2.symm⟩
  ·rw[List.getElem?_append_right (by simpa using h)]at hx;have h1:=(List.getElem?_eq_some_iff.1 hx);obtain⟨h2,h3⟩:=h1;simp only[List.length_map,List.length_replicate]at h2;exact .inr ⟨h,by omega,by rw[←h3];simp⟩
 refine ⟨by simp[Lk],rfl,fun t x hx _=>?_,fun b T cs hb=>(by rw[aA]at hb;cases hb),fun b b' hb=>(by rw[aA]at hb;cases hb),fun t x hx=>?_,fun b T cs hb=>(by rw[aA]at hb;cases hb),fun n hn=>(by cases hn),fun n hn=>(by cases hn),fun W hW=>⟨hW.os,hW.tape,hW.output,hW.size,fun k hk=>hW.block k hk fun b hb=>(by rw[aA]at hb;cases hb)⟩⟩
 ·rcases hσ t x hx with ⟨y,h1,rfl⟩ | ⟨h1,h2,rfl⟩
  ·have h3:=(List.getElem?_eq_some_iff.1 h1).1;simp only[Array.getD_eq_getD_getElem?];rw[Array.getElem?_append_left (by simpa using h3)];simp[h1,SV.val]
  ·simp only[Array.getD_eq_getD_getElem?];rw[Array.getElem?_append_right (by simpa using h1)];simp;rw[Array.getElem?_replicate];split<;>rfl
 ·rcases hσ t x hx with ⟨y,h1,rfl⟩ | ⟨h1,h2,rfl⟩
  ·have h3:=List.all_eq_true.1 hn y (List.mem_of_getElem? h1);exact Oh (fun b hb=>by cases hb) h3
  ·rfl
theorem C9u {Φ:Fcts} {d:Dep} {lo:Nat} {μ:Nat→Nm} {w:World} (hB:∀x∈d.bs,Bk w (μ x.1).b x.2.1 (cellsL ρ μ x.2.2)∧lo≤(μ x.1).b) (hD:∀n∈d.ds,Φ.at n μ w):d.post ρ Φ lo μ w:=by
 unfold Dep.post;have h1:∀l:List Nat,(∀n∈l,Φ.at n μ w)→l.foldr (fun n p=>Φ.at n μ w∧p) True:=by
  intro l;induction l with
  | nil=>intro _;trivial
  | cons n l ih=>intro h;exact ⟨h n (by simp),ih fun m hm=>h m (by simp[hm])⟩
 have h2:∀(l:List (Nat×TypeId×List Sg)) (p:Prop),p→(∀x∈l,Bk w (μ x.1).b x.2.1 (cellsL ρ μ x.2.2)∧lo≤(μ x.1).b)→l.foldr (fun x p=>(Bk w (μ x.1).b x.2.1 (cellsL ρ μ x.2.2)∧lo≤(μ x.1).b)∧p) p:=by
  intro l p hp;induction l with
  | nil=>intro _;exact hp
  | cons x l ih=>intro h;exact ⟨h x (by simp),ih fun y hy=>h y (by simp[hy])⟩
 exact h2 _ _ (h1 _ hD) hB
theorem A1r {f fuel:Nat} {fn:Func} {args:Array Value} {es:List Eqn} {v:(Nat→Nm)→Value} {q:Nat→(Nat→Nm)→World→Prop} {nf:Bool} (hm:P.follows .mixedOrders=true) (hf:P.funcs[f]?=some fn) (h:D6p P g fuel fn ρ=some (args,es,v,q,nf)) (w:World)
 (hes:∀e∈es,e.Ok P g.f (fun W=>Below w.heap.size w W)) :
 Calls P f args w fun e w'=>∃μ,e=.returned (v μ)∧Below w.heap.size w w'∧∀W,B0x w w' W→(nf=true∨Below w.heap.size w W)→q w.heap.size μ W:=by
 unfold D6p at h;split at h
 ·rename_i c ps na hb hps
  have aE:=Qq hps (fun _=>false);have aF:∀(k:XK) (s':St) (aC:Nat) (qs:List Rq),A2z P g ρ fuel c (Lk (ps.map fun x=>.v x.1 x.2) fn.ntmps) na=some (k,s',aC,qs)→(k=.nrm∨k=.ret)→
   (match C1s P s' fn.results.toList with
   | some r=>some ((ps.map fun x=>cv ρ nm0 x.1 x.2).toArray,qs.map (Rq.eqn ρ g.f),(fun μ=>r.val ρ μ),fun lo μ W=>(Hy s' g.f.sup [r]).post ρ g.f lo μ W,(Hy s' g.f.sup [r]).ds.isEmpty)
   | none=>none)=some (args,es,v,q,nf)→Calls P f args w fun e w'=>∃μ,e=.returned (v μ)∧Below w.heap.size w w'∧∀W,B0x w w' W→(nf=true∨Below w.heap.size w W)→q w.heap.size μ W:=by
   intro k s' aC qs aA hk aB;split at aB
   ·rename_i r hr
    cases aB;refine calls_of_wp hf hb ?_;refine Aa hm fuel c _ na _ aA (fun q hq=>hes _ (List.mem_map_of_mem hq)) nm0 _ w _ (A4h aE w) fun μ' a' w' hR hG=>?_;have h1:=B1o (fn:=fn) hR hr;have h3:Below w.heap.size w w':=⟨hG.kp.os,hG.kp.tape,hG.kp.output,hG.kp.size,fun k hk=>hG.kp.block k hk fun b hb=>by cases hb⟩;have h4:∀W,B0x w w' W→((Hy s' g.f.sup [r]).ds.isEmpty=true∨Below w.heap.size w W)→(Hy s' g.f.sup [r]).post ρ g.f w.heap.size μ' W:=by
     intro W hW aG;refine C9u (fun x hx=>?_) fun n hn=>?_
     ·obtain⟨n,hn,aD⟩:=List.mem_filterMap.1 hx;cases hbk:s'.blk n with
      | none=>rw[hbk]at aD;cases aD
      | some u=>
       rw[hbk]at aD;cases aD;have h5:=hR.bl n u.1 u.2 hbk;have h6:=hG.new n (by rw[hbk];rfl) (Nat.zero_le _);exact ⟨(hW.2 _ h6 h5.lt).trans h5,h6⟩
     ·have hb:Below w.heap.size w W:=by
       rcases aG with h | h
       ·rw[List.isEmpty_iff.1 h]at hn;cases hn
       ·exact h
      have aH:n∈s'.dy:=by simpa using (List.mem_filter.1 hn).2
      obtain⟨lo,hi,h6,h7,_,h8⟩:=hR.fx n aH;have h9:=h6 w.heap.size fun W hW=>hW.size;exact h8 W hW.1 (fun k hlo hhi=>hW.2 k (by omega) (by omega)) hb
    rcases hk with rfl | rfl
    ·exact ⟨hR.df,_,h1,μ',rfl,h3,h4⟩
    ·exact ⟨hR.df,_,h1,μ',rfl,h3,h4⟩
   ·cases aB
  split at h
  ·cases h
  ·rename_i k s' aC qs hne aA
   refine aF k s' aC qs aA ?_ h;cases k with
   | nrm=>exact .inl rfl
   | ext id=>exact (hne id rfl).elim
   | ret=>exact .inr rfl
  ·cases h
 ·cases h
end
structure DC (P : Program) (Φ : Fcts) (S : World → Prop) where
 e:Eqn
 ok:e.Ok P Φ S
 res:List Av
def noF:Fcts:=⟨fun _=>[],fun _ _ _=>True⟩
theorem H7 {P:Program} {g:Cfg} {f:Nat} {fn:Func} {args:Array Value} {v:Value} (fuel:Nat) (ρ0:List Av) {w:World} (ds:List (DC P g.f (fun W=>Below w.heap.size w W))) (hm:P.follows .mixedOrders=true) (hf:P.funcs[f]?=some fn)
 (h:D6p P g fuel fn (ρ0++ds.flatMap (·.res))=some (args,ds.map (·.e),(fun _=>v),(fun _ _ _=>True),true)):Calls P f args w fun e w'=>e=.returned v∧Below w.heap.size w w':=
 (A1r hm hf h w fun e he=>by obtain⟨d,_,rfl⟩:=List.mem_map.1 he;exact d.ok).mono fun e w' ⟨_,h1,h2,_⟩=>⟨h1,h2⟩
theorem C8c {P:Program} {g:Cfg} {f:Nat} {fn:Func} {args:Array Value} {v:(Nat→Nm)→Value} {q:Nat→(Nat→Nm)→World→Prop} {nf:Bool} (fuel:Nat) (ρ0:List Av) {w:World} (ds:List (DC P g.f (fun W=>Below w.heap.size w W))) (hm:P.follows .mixedOrders=true) (hf:P.funcs[f]?=some fn)
 (h:D6p P g fuel fn (ρ0++ds.flatMap (·.res))=some (args,ds.map (·.e),v,q,nf)):Calls P f args w fun e w'=>∃μ,e=.returned (v μ)∧Below w.heap.size w w'∧∀W,B0x w w' W→(nf=true∨Below w.heap.size w W)→q w.heap.size μ W:=
 A1r hm hf h w fun e he=>by obtain⟨d,_,rfl⟩:=List.mem_map.1 he;exact d.ok
end
section
def Bj (l:List UInt64) (k:Nat) (h:l.length=k):Av:=⟨E4 l,k,by simp[h],fun v hv=>by
 have:=C0x l;rw[Array.all_eq_true_iff_forall_mem]at this;exact this v (by simpa using hv)⟩
def Je (l:List UInt8) (k:Nat) (h:l.length=k):Av:=⟨c8 l,k,by simp[h],fun v hv=>by
 have:=C9z l;rw[Array.all_eq_true_iff_forall_mem]at this;exact this v (by simpa using hv)⟩
def Wo (v:Value) (h:v.oneCell'=true):Av:=⟨[v],1,rfl,fun u hu=>by rw[List.mem_singleton.1 hu];exact h⟩
section
variable {f : FuncId} {args : Array Value} {Φ : Fcts} {S : World → Prop}
def dE {l:List UInt64} (h:∀W,Calls Tryz.prog f args W fun e W'=>e=.returned (F8 l)∧Below W.heap.size W W') (hl:l.length=5):DC Tryz.prog Φ S:=⟨.call f (fun _=>args) (fun _=>(F8 l)) none (fun _ _=>True),fun _ W _ _=>h W,[Bj l 5 hl]⟩
def dR {l:List UInt64} (k:Nat) (h:∀W,Calls Tryz.prog f args W fun e W'=>e=.returned (F8 l)∧Below W.heap.size W W') (hl:l.length=k):DC Tryz.prog Φ S:=⟨.call f (fun _=>args) (fun _=>(F8 l)) none (fun _ _=>True),fun _ W _ _=>h W,[Bj l k hl]⟩
def dV {v:Value} (h:∀W,Calls Tryz.prog f args W fun e W'=>e=.returned v∧Below W.heap.size W W') (hv:v.oneCell'=true):DC Tryz.prog Φ S:=⟨.call f (fun _=>args) (fun _=>v) none (fun _ _=>True),fun _ W _ _=>h W,[Wo v hv]⟩
def dH {l:List UInt8} (h:∀W,Calls Tryz.prog f args W fun e W'=>e=.returned (A8 l)∧Below W.heap.size W W') (hl:l.length=32):DC Tryz.prog Φ S:=⟨.call f (fun _=>args) (fun _=>(A8 l)) none (fun _ _=>True),fun _ W _ _=>h W,[Je l 32 hl]⟩
def dB {b:Bool} (h:∀W,Calls Tryz.prog f args W fun e W'=>e=.returned (.bool b)∧Below W.heap.size W W'):DC Tryz.prog Φ S:=⟨.call f (fun _=>args) (fun _=>(.bool b)) none (fun _ _=>True),fun _ W _ _=>h W,[Wo (.bool b) rfl]⟩
def dEB {l:List UInt64} {b:Bool} (h:∀W,Calls Tryz.prog f args W fun e W'=>e=.returned (.tuple #[F8 l,.bool b])∧Below W.heap.size W W') (hl:l.length=5):DC Tryz.prog Φ S:=⟨.call f (fun _=>args) (fun _=>(.tuple #[F8 l,.bool b])) none (fun _ _=>True),fun _ W _ _=>h W,[Bj l 5 hl,Wo (.bool b) rfl]⟩
def dEE {l m:List UInt64} (h:∀W,Calls Tryz.prog f args W fun e W'=>e=.returned (.tuple #[F8 l,F8 m])∧Below W.heap.size W W') (hl:l.length=5) (hm:m.length=5):DC Tryz.prog Φ S:=⟨.call f (fun _=>args) (fun _=>(.tuple #[F8 l,F8 m])) none (fun _ _=>True),fun _ W _ _=>h W,[Bj l 5 hl,Bj m 5 hm]⟩
end
theorem F9:Tryz.prog.follows .mixedOrders=true:=by kernel_rfl
abbrev DC1 (w : World) := DC Tryz.prog noF (fun W => Below w.heap.size w W)
abbrev DL (w : World) := List (DC1 w)
def Sj {Φ:Fcts} {S:World→Prop} {op:BinOp} {t:TypeId} {x y v:Value} (h:∀(X Y:Operand) W,(do eqGuard op t X Y x y;binOp op t x y:Sem Value).run Tryz.prog W=.ok v W) (ho:v.oneCell'=true):DC Tryz.prog Φ S:=
 ⟨.bin op t (fun _=>x) (fun _=>y) (fun _=>v) (fun _ _=>True),fun _ X Y W _ _=>h X Y W,[Wo v ho]⟩
def C6d {Φ:Fcts} {S:World→Prop} {s:Sem Value} {v:Value} (h:∀W,s.run Tryz.prog W=.ok v W) (res:List Av):DC Tryz.prog Φ S:=
 ⟨.sem (fun _=>s) (fun _=>v) none (fun _ _=>True),fun _ W _ _=>h W,res⟩
def B1s {Φ:Fcts} {S:World→Prop} {op:BinOp} {x y v:Value} (h:∀W,(binOp op 104 x y).run Tryz.prog W=.ok v W) (hg:∀(X Y:Operand) W,(eqGuard op 104 X Y x y).run Tryz.prog W=.ok () W) (ho:v.oneCell'=true):DC Tryz.prog Φ S:=
 Sj (op:=op) (t:=104) (x:=x) (y:=y) (v:=v) (fun X Y W=>by simp only[Sem.run_bind,hg X Y W,Result.andThen_ok,h W]) ho
abbrev Ly (x : UInt64) : Value := .int .u64 (C8 x)
def Xj {Φ:Fcts} {S:World→Prop} (x y:UInt64):DC Tryz.prog Φ S:=B1s (op:=.add) (x:=Ly x) (y:=Ly y) (v:=Ly (x+y)) (fun W=>by rw[show binOp .add 104 (Ly x) (Ly y)=Op.intArith .add .u64 (C8 x) (C8 y) from rfl,add64];rfl) (fun _ _ _=>rfl) rfl
def E7p {Φ:Fcts} {S:World→Prop} (x y:UInt64):DC Tryz.prog Φ S:=B1s (op:=.sub) (x:=Ly x) (y:=Ly y) (v:=Ly (x-y)) (fun W=>by rw[show binOp .sub 104 (Ly x) (Ly y)=Op.intArith .sub .u64 (C8 x) (C8 y) from rfl,B8p];rfl) (fun _ _ _=>rfl) rfl
def Ux {Φ:Fcts} {S:World→Prop} (x y:UInt64):DC Tryz.prog Φ S:=B1s (op:=.mul) (x:=Ly x) (y:=Ly y) (v:=Ly (x*y)) (fun W=>by rw[show binOp .mul 104 (Ly x) (Ly y)=Op.intArith .mul .u64 (C8 x) (C8 y) from rfl,A5w];rfl) (fun _ _ _=>rfl) rfl
def Dm {Φ:Fcts} {S:World→Prop} (x y:UInt64):DC Tryz.prog Φ S:=B1s (op:=.and) (x:=Ly x) (y:=Ly y) (v:=Ly (x &&& y)) (fun W=>by rw[show binOp .and 104 (Ly x) (Ly y)=Op.intBits .and .u64 (C8 x) (C8 y) from rfl,A9o];rfl) (fun _ _ _=>rfl) rfl
def Ek {Φ:Fcts} {S:World→Prop} (x:UInt64) (k:IntKind) (s:Nat) (hs:s<64):DC Tryz.prog Φ S:=B1s (op:=.shr) (x:=Ly x) (y:=.int k (s:Int)) (v:=Ly (x >>> UInt64.ofNat s)) (fun W=>by rw[show binOp .shr 104 (Ly x) (.int k (s:Int))=Op.shift .shr .u64 (C8 x) k (s:Int) from rfl,V9 x k s hs];rfl) (fun _ _ _=>rfl) rfl
def Xe {Φ:Fcts} {S:World→Prop} (x y:UInt64):DC Tryz.prog Φ S:=B1s (op:=.or) (x:=Ly x) (y:=Ly y) (v:=Ly (x ||| y)) (fun W=>by rw[show binOp .or 104 (Ly x) (Ly y)=Op.intBits .or .u64 (C8 x) (C8 y) from rfl,F8c];rfl) (fun _ _ _=>rfl) rfl
def Nv {Φ:Fcts} {S:World→Prop} (x:UInt64) (k:IntKind) (s:Nat) (hs:s<64):DC Tryz.prog Φ S:=B1s (op:=.shl) (x:=Ly x) (y:=.int k (s:Int)) (v:=Ly (x <<< UInt64.ofNat s)) (fun W=>by rw[show binOp .shl 104 (Ly x) (.int k (s:Int))=Op.shift .shl .u64 (C8 x) k (s:Int) from rfl,U4 x k s hs];rfl) (fun _ _ _=>rfl) rfl
def D8j {Φ:Fcts} {S:World→Prop} (x y:UInt64) {b:Bool} (hb:(x != y)=b):DC Tryz.prog Φ S:=B1s (op:=.neq) (x:=Ly x) (y:=Ly y) (v:=.bool b) (fun W=>by rw[show binOp .neq 104 (Ly x) (Ly y)=pure (.bool (C8 x != C8 y)) from rfl,D4o,hb];rfl) (fun _ _ _=>rfl) rfl
def F6b {Φ:Fcts} {S:World→Prop} (x:UInt64):DC Tryz.prog Φ S:=C6d (s:=convert 104 5 (Ly x)) (v:=.int .u8 (n8 x.toUInt8)) (fun W=>by rw[←C8b];kernel_rfl) [Je [x.toUInt8] 1 rfl]
def F0g {Φ:Fcts} {S:World→Prop} (x:UInt8):DC Tryz.prog Φ S:=C6d (s:=convert 5 104 (.int .u8 (n8 x))) (v:=.int .u64 (C8 x.toUInt64)) (fun W=>by rw[←D0r];kernel_rfl) [Bj [x.toUInt64] 1 rfl]
def avs (l:List UInt64):List Av:=l.map fun x=>Bj [x] 1 rfl
def dE5 {Φ:Fcts} {S:World→Prop} {f:FuncId} {args:Array Value} {l:List UInt64} (h:∀W,Calls Tryz.prog f args W fun e W'=>e=.returned (F8 l)∧Below W.heap.size W W'):DC Tryz.prog Φ S:=⟨.call f (fun _=>args) (fun _=>(F8 l)) none (fun _ _=>True),fun _ W _ _=>h W,avs l⟩
theorem A8a {p:List UInt64→Prop} (h:∀a b c d e,p [a,b,c,d,e]):∀l:List UInt64,l.length=5→p l
 | [a,b,c,d,e],_=>h a b c d e
theorem ex5:∀l:List UInt64,l.length=5→∃a b c d e,l=[a,b,c,d,e]:=A8a fun a b c d e=>⟨a,b,c,d,e,rfl⟩
theorem C6i {p:List UInt64→Prop} (h:∀a b,p [a,b]):∀l:List UInt64,l.length=2→p l
 | [a,b],_=>h a b
def gE:Cfg:=⟨fun t=>if t=158 then some [1,1,1,1,1] else none,fun _=>none,noF⟩
def gE2:Cfg:=⟨fun t=>if t=275 then some [1,1] else gE.cut t,fun _=>none,noF⟩
theorem B8a (w:World):(sizeOf 5).run Tryz.prog w=.ok 1 w:=by
 have hi:(Tryz.prog.info? 5).map (·.size)=some 1:=by kernel_rfl
 cases hq:Tryz.prog.info? 5 with
 | none=>simp[hq]at hi
 | some j=>simp[hq]at hi;simp[sizeOf,typeInfo,hq,hi]
theorem B9p (l m:List UInt8) (hl:l.length=32) (hm:m.length=32) (X Y:Operand) (W:World):(do eqGuard .eql 35 X Y (A8 l) (A8 m);binOp .eql 35 (A8 l) (A8 m):Sem Value).run Tryz.prog W=.ok (.bool (l==m)) W:=by
 have aA:(eqGuard .eql 35 X Y (A8 l) (A8 m)).run Tryz.prog W=.ok () W:=run_eqGuard_agg (P:=Tryz.prog) W .eql 35 X Y _ _ (by kernel_rfl);have e1:(binOp .eql 35 (A8 l) (A8 m)).run Tryz.prog W=.ok (.bool (l==m)) W:=run_eql_bytes (P:=Tryz.prog) W 35 5 32 Tryz.underlying35 Tryz.underlying5 B8a l m hl hm;simp only[Sem.run_bind,aA,Result.andThen_ok,e1]
theorem B9f (l m:List UInt8) (hl:l.length=32) (hm:m.length=32) (X Y:Operand) (W:World):(do eqGuard .neq 35 X Y (A8 l) (A8 m);binOp .neq 35 (A8 l) (A8 m):Sem Value).run Tryz.prog W=.ok (.bool (!(l==m))) W:=by
 have aA:(eqGuard .neq 35 X Y (A8 l) (A8 m)).run Tryz.prog W=.ok () W:=run_eqGuard_agg (P:=Tryz.prog) W .neq 35 X Y _ _ (by kernel_rfl);have e1:(binOp .neq 35 (A8 l) (A8 m)).run Tryz.prog W=.ok (.bool (!(l==m))) W:=by rw[A8,A8,run_neq_struct];exact congrArg (fun r:Result Bool=>r.andThen fun b w'=>Result.ok (Value.bool (!b)) w') (run_equalIn_bytes (P:=Tryz.prog) W 9998 35 5 32 Tryz.underlying35 Tryz.underlying5 B8a l m hl hm)
 simp only[Sem.run_bind,aA,Result.andThen_ok,e1]
def dEq {Φ:Fcts} {S:World→Prop} (l m:List UInt8) (hl:l.length=32) (hm:m.length=32) {b:Bool} (hb:(l==m)=b):DC Tryz.prog Φ S:=Sj (op:=.eql) (t:=35) (x:=A8 l) (y:=A8 m) (v:=.bool b) (by rw[←hb];exact B9p l m hl hm) rfl
def dNe {Φ:Fcts} {S:World→Prop} (l m:List UInt8) (hl:l.length=32) (hm:m.length=32) {b:Bool} (hb:(l==m)=b):DC Tryz.prog Φ S:=Sj (op:=.neq) (t:=35) (x:=A8 l) (y:=A8 m) (v:=.bool (!b)) (by rw[←hb];exact B9f l m hl hm) rfl
def dO8 {Φ:Fcts} {S:World→Prop} {op:BinOp} {x y v:Value} (h:∀W,(binOp op 5 x y).run Tryz.prog W=.ok v W) (hg:∀(X Y:Operand) W,(eqGuard op 5 X Y x y).run Tryz.prog W=.ok () W) (ho:v.oneCell'=true):DC Tryz.prog Φ S:=
 Sj (op:=op) (t:=5) (x:=x) (y:=y) (v:=v) (fun X Y W=>by simp only[Sem.run_bind,hg X Y W,Result.andThen_ok,h W]) ho
def dOr {Φ:Fcts} {S:World→Prop} (x y:UInt8):DC Tryz.prog Φ S:=dO8 (op:=.or) (x:=.int .u8 (n8 x)) (y:=.int .u8 (n8 y)) (v:=.int .u8 (n8 (x ||| y))) (fun W=>by rw[show binOp .or 5 (.int .u8 (n8 x)) (.int .u8 (n8 y))=Op.intBits .or .u8 (n8 x) (n8 y) from rfl,or8];rfl) (fun _ _ _=>rfl) rfl
def C3s {Φ:Fcts} {S:World→Prop} (x y:UInt8):DC Tryz.prog Φ S:=dO8 (op:=.and) (x:=.int .u8 (n8 x)) (y:=.int .u8 (n8 y)) (v:=.int .u8 (n8 (x &&& y))) (fun W=>by rw[show binOp .and 5 (.int .u8 (n8 x)) (.int .u8 (n8 y))=Op.intBits .and .u8 (n8 x) (n8 y) from rfl,C9v];rfl) (fun _ _ _=>rfl) rfl
def E1j {Φ:Fcts} {S:World→Prop} (x:UInt8) (k:IntKind) (s:Nat) (hs:s<8):DC Tryz.prog Φ S:=dO8 (op:=.shr) (x:=.int .u8 (n8 x)) (y:=.int k (s:Int)) (v:=.int .u8 (n8 (x >>> UInt8.ofNat s))) (fun W=>by rw[show binOp .shr 5 (.int .u8 (n8 x)) (.int k (s:Int))=Op.shift .shr .u8 (n8 x) k (s:Int) from rfl,Ty x k s hs];rfl) (fun _ _ _=>rfl) rfl
def D5x {Φ:Fcts} {S:World→Prop} (x y:UInt8) {b:Bool} (hb:(x==y)=b):DC Tryz.prog Φ S:=dO8 (op:=.eql) (x:=.int .u8 (n8 x)) (y:=.int .u8 (n8 y)) (v:=.bool b) (fun W=>by rw[show binOp .eql 5 (.int .u8 (n8 x)) (.int .u8 (n8 y))=pure (.bool (n8 x==n8 y)) from rfl,Vc,hb];rfl) (fun _ _ _=>rfl) rfl
def m32 (l:List UInt8):List UInt8:=(List.range 32).map (Sh.g8 l)
theorem A7x {l:List UInt8} (h:l.length=32):m32 l=l:=by
 apply List.ext_getElem?;intro j;unfold m32;rw[List.getElem?_map];by_cases hj:j<32
 ·rw[List.getElem?_range hj,List.getElem?_eq_getElem (by omega)];simp[Sh.g8,List.getD_eq_getElem?_getD,List.getElem?_eq_getElem (show j<l.length by omega)]
 ·rw[List.getElem?_eq_none (by simpa using hj),List.getElem?_eq_none (by omega)];rfl
def avm (l:List UInt8):List Av:=(List.range 32).map fun i=>Je [Sh.g8 l i] 1 rfl
def E8d {Φ:Fcts} {S:World→Prop} {f:FuncId} {args:Array Value} {l:List UInt8} (h:∀W,Calls Tryz.prog f args W fun e W'=>e=.returned (A8 l)∧Below W.heap.size W W') (hl:l.length=32):DC Tryz.prog Φ S:=⟨.call f (fun _=>args) (fun _=>A8 (m32 l)) none (fun _ _=>True),fun _ W _ _=>by rw[A7x hl];exact h W,avm l⟩
def E8n {Φ:Fcts} {S:World→Prop} (l m:List UInt8) (hl:l.length=32) (hm:m.length=32) {b:Bool} (hb:(l != m)=b):DC Tryz.prog Φ S:=Sj (op:=.neq) (t:=35) (x:=A8 (m32 l)) (y:=A8 (m32 m)) (v:=.bool b) (by rw[A7x hl,A7x hm,←hb];exact B9f l m hl hm) rfl
def E0q:Cfg:=⟨fun t=>if t=35 then some (List.replicate 32 1) else gE.cut t,fun _=>none,noF⟩
end
section
def Hv (f g:Nat→UInt64) (n i:Nat):List UInt64:=(List.range n).map fun j=>if j<i then f j else g j
@[simp, go_sem] theorem Nb (f g : Nat → UInt64) (n i : Nat) : (Hv f g n i).length = n := by simp [Hv]
theorem B0u {f g:Nat→UInt64} {n i j:Nat} (hj:j<n):E8 (Hv f g n i) j=if j<i then f j else g j:=by
 unfold E8 Hv;rw[List.getD_eq_getElem?_getD,List.getElem?_map,List.getElem?_range hj];rfl
theorem A1g {f g:Nat→UInt64} {n i:Nat} (hi:i<n) {x:UInt64} (hx:x=f i):(Hv f g n i).set i x=Hv f g n (i+1):=by
 subst hx;apply List.ext_getElem?;intro j;unfold Hv;rw[List.getElem?_set];by_cases h:i=j
 ·subst h;rw[if_pos rfl,if_pos (by simpa using hi),List.getElem?_map,List.getElem?_range hi];simp
 ·rw[if_neg h,List.getElem?_map,List.getElem?_map];by_cases hj:j<n
  ·rw[List.getElem?_range hj];simp only[Option.map_some];have:(j<i+1)↔(j<i):=by omega
   simp[this]
  ·rw[List.getElem?_eq_none (by simpa using hj)];rfl
theorem A3s {f:Nat→UInt64} {l:List UInt64} {n:Nat} (hl:l.length=n):Hv f (E8 l) n 0=l:=by
 apply List.ext_getElem?;intro j;unfold Hv;rw[List.getElem?_map];by_cases hj:j<n
 ·rw[List.getElem?_range hj,List.getElem?_eq_getElem (by omega)];simp[E8,List.getD_eq_getElem?_getD,List.getElem?_eq_getElem (show j<l.length by omega)]
 ·rw[List.getElem?_eq_none (by simpa using hj),List.getElem?_eq_none (by omega)];rfl
theorem B5u {f:Nat→UInt64} {n:Nat}:Hv f (fun _=>0) n 0=J7 n:=by
 apply List.ext_getElem?;intro j;unfold Hv J7;rw[List.getElem?_map,List.getElem?_replicate];by_cases hj:j<n
 ·rw[List.getElem?_range hj,if_pos hj];rfl
 ·rw[List.getElem?_eq_none (by simpa using hj),if_neg hj];rfl
set_option maxRecDepth 100000
theorem Ff (a:List UInt64) (ha:a.length=5) (w:World):Calls Tryz.prog 176 #[F8 a] w fun e w'=>e=.returned (F8 (Ez a))∧Below w.heap.size w w':=by
 revert a;refine A8a fun a b c d e=>?_;let l:=[a,b,c,d,e]
 let L:UInt64:=2251799813685247
 exact H7 (g:=gE) 100 (avs l) (((List.range 5).flatMap fun i=>[Ek (E8 l i) .u64 51 (by decide),Dm (E8 l i) L])++([Ux 19 (e >>> 51),Xj (a &&& L) ((19:UInt64)*(e >>> 51))]++(List.range 4).map fun i=>Xj (E8 l (i+1) &&& L) (E8 l i >>> 51)))
  F9 Tryz.func176 (by kernel_rfl)
end
section
def Q6:World→List (TypeId×List Value)→World
 | w,[]=>w
 | w,x::l=>Q6 (w.alloc (.cells x.2.toArray x.1)) l
theorem H6:∀(l:List (TypeId×List Value)) (w:World),Below w.heap.size w (Q6 w l)
 | [],w=>Below.refl _ _
 | x::l,w=>((Below.refl _ _).alloc (Nat.le_refl _) _).trans ((H6 l _).mono (by simp))
theorem O7:∀(l:List (TypeId×List Value)) (w:World),(Q6 w l).heap.size=w.heap.size+l.length
 | [],w=>rfl
 | x::l,w=>by rw[Q6,O7 l];simp;omega
theorem E0:∀(l:List (TypeId×List Value)) (w:World) (i:Nat) (t:TypeId) (cs:List Value),l[i]?=some (t,cs)→Bk (Q6 w l) (w.heap.size+i) t cs
 | [],_,_,_,_,h=>by simp at h
 | x::l,w,0,t,cs,h=>by
  simp only[List.getElem?_cons_zero,Option.some.injEq]at h;subst h;exact (Bk.new w t cs).below (H6 l _) (by simp)
 | x::l,w,i+1,t,cs,h=>by
  have:=E0 l (w.alloc (.cells x.2.toArray x.1)) i t cs (by simpa using h);rw[Q6];have e:(w.alloc (.cells x.2.toArray x.1)).heap.size+i=w.heap.size+(i+1):=by simp;omega
  rwa [e]at this
set_option maxRecDepth 100000
theorem Tb (t0 t1 t2 t3 t4:List UInt64) (h0:t0.length=2) (h1:t1.length=2) (h2:t2.length=2) (h3:t3.length=2) (h4:t4.length=2) (w:World):Calls Tryz.prog 175 #[F8 t0,F8 t1,F8 t2,F8 t3,F8 t4] w fun e w'=>e=.returned (F8 (Jr t0 t1 t2 t3 t4))∧Below w.heap.size w w':=by
 revert t0;refine C6i fun a0 a1=>?_;revert t1;refine C6i fun b0 b1=>?_;revert t2;refine C6i fun c0 c1=>?_;revert t3;refine C6i fun d0 d1=>?_;revert t4;refine C6i fun e0 e1=>?_;let L:UInt64:=2251799813685247
 let c:UInt64:=19
 let o:=fun (x y:UInt64)=>(dV (C7d [x,y] rfl) rfl:DC1 w)
 exact H7 (g:=gE2) 100 (avs [a0,a1,b0,b1,c0,c1,d0,d1,e0,e1]) [o a0 a1,o b0 b1,o c0 c1,o d0 d1,o e0 e1,Dm a1 L,Ux c (over [e0,e1]),Xj (a1 &&& L) (c*over [e0,e1]),
  Dm b1 L,Xj (b1 &&& L) (over [a0,a1]),Dm c1 L,Xj (c1 &&& L) (over [b0,b1]),Dm d1 L,Xj (d1 &&& L) (over [c0,c1]),Dm e1 L,Xj (e1 &&& L) (over [d0,d1]),dE5 (Ff (D5v [a0,a1] [b0,b1] [c0,c1] [d0,d1] [e0,e1]) rfl)] F9 Tryz.func175 (by kernel_rfl)
def A6t (a b:List UInt64):List UInt64:=T4 (T4 (T4 (T4 (Lx (E8 a 0) (E8 b 0)) (19*E8 a 1) (E8 b 4)) (19*E8 a 2) (E8 b 3)) (19*E8 a 3) (E8 b 2)) (19*E8 a 4) (E8 b 1)
@[simp, go_sem] theorem D2p (a b : List UInt64) : (A6t a b).length = 2 := rfl
def A7g (a b:List UInt64):List UInt64:=T4 (T4 (T4 (T4 (Lx (E8 a 0) (E8 b 1)) (E8 a 1) (E8 b 0)) (19*E8 a 2) (E8 b 4)) (19*E8 a 3) (E8 b 3)) (19*E8 a 4) (E8 b 2)
@[simp, go_sem] theorem D2n (a b : List UInt64) : (A7g a b).length = 2 := rfl
def A7m (a b:List UInt64):List UInt64:=T4 (T4 (T4 (T4 (Lx (E8 a 0) (E8 b 2)) (E8 a 1) (E8 b 1)) (E8 a 2) (E8 b 0)) (19*E8 a 3) (E8 b 4)) (19*E8 a 4) (E8 b 3)
@[simp, go_sem] theorem D2j (a b : List UInt64) : (A7m a b).length = 2 := rfl
def A8b (a b:List UInt64):List UInt64:=T4 (T4 (T4 (T4 (Lx (E8 a 0) (E8 b 3)) (E8 a 1) (E8 b 2)) (E8 a 2) (E8 b 1)) (E8 a 3) (E8 b 0)) (19*E8 a 4) (E8 b 4)
@[simp, go_sem] theorem D2i (a b : List UInt64) : (A8b a b).length = 2 := rfl
def A8v (a b:List UInt64):List UInt64:=T4 (T4 (T4 (T4 (Lx (E8 a 0) (E8 b 4)) (E8 a 1) (E8 b 3)) (E8 a 2) (E8 b 2)) (E8 a 3) (E8 b 1)) (E8 a 4) (E8 b 0)
@[simp, go_sem] theorem D2o (a b : List UInt64) : (A8v a b).length = 2 := rfl
def J5 (a b:List UInt64):List UInt64:=Jr (A6t a b) (A7g a b) (A7m a b) (A8b a b) (A8v a b)
@[simp, go_sem] theorem D7p (a b : List UInt64) : (J5 a b).length = 5 := rfl
def D8e {Φ:Fcts} {S:World→Prop} (x y:UInt64):DC Tryz.prog Φ S:=dR 2 (B2x x y) rfl
def C7r {Φ:Fcts} {S:World→Prop} (p:List UInt64) (hp:p.length=2) (x y:UInt64):DC Tryz.prog Φ S:=dR 2 (D2e p hp x y) rfl
def D7o {Φ:Fcts} {S:World→Prop}:(p:List UInt64)→p.length=2→List (UInt64×UInt64)→List (DC Tryz.prog Φ S)
 | _,_,[]=>[]
 | p,hp,(x,y)::l=>C7r p hp x y::D7o (T4 p x y) rfl l
def A6o {Φ:Fcts} {S:World→Prop} (x y:UInt64) (l:List (UInt64×UInt64)):List (DC Tryz.prog Φ S):=D8e x y::D7o (Lx x y) rfl l
theorem M8 (a b:List UInt64) (ha:a.length=5) (hb:b.length=5) (w:World):Calls Tryz.prog 122 #[F8 a,F8 b] w fun e w'=>e=.returned (F8 (J5 a b))∧Below w.heap.size w w':=by
 revert a;refine A8a fun a0 a1 a2 a3 a4=>?_;revert b;refine A8a fun b0 b1 b2 b3 b4=>?_;let a:=[a0,a1,a2,a3,a4]
 let b:=[b0,b1,b2,b3,b4]
 let c:UInt64:=19
 exact H7 (g:=gE) 100 (avs a++avs b) ([Ux c a1,Ux c a2,Ux c a3,Ux c a4]++(A6o a0 b0 [(c*a1,b4),(c*a2,b3),(c*a3,b2),(c*a4,b1)]++(A6o a0 b1 [(a1,b0),(c*a2,b4),(c*a3,b3),(c*a4,b2)]++(A6o a0 b2 [(a1,b1),(a2,b0),(c*a3,b4),(c*a4,b3)] ++
  (A6o a0 b3 [(a1,b2),(a2,b1),(a3,b0),(c*a4,b4)]++(A6o a0 b4 [(a1,b3),(a2,b2),(a3,b1),(a4,b0)]++[dE5 (Tb (A6t a b) (A7g a b) (A7m a b) (A8b a b) (A8v a b) rfl rfl rfl rfl rfl)])))))) F9 Tryz.func122 (by kernel_rfl)
def C0g (a:List UInt64):List UInt64:=T4 (T4 (Lx (E8 a 0) (E8 a 0)) (2*E8 a 1) (19*E8 a 4)) (2*E8 a 2) (19*E8 a 3)
@[simp, go_sem] theorem D3i (a : List UInt64) : (C0g a).length = 2 := rfl
def B9x (a:List UInt64):List UInt64:=T4 (T4 (Lx (2*E8 a 0) (E8 a 1)) (2*E8 a 2) (19*E8 a 4)) (E8 a 3) (19*E8 a 3)
@[simp, go_sem] theorem D6s (a : List UInt64) : (B9x a).length = 2 := rfl
def C0h (a:List UInt64):List UInt64:=T4 (T4 (Lx (2*E8 a 0) (E8 a 2)) (E8 a 1) (E8 a 1)) (2*E8 a 3) (19*E8 a 4)
@[simp, go_sem] theorem D6a (a : List UInt64) : (C0h a).length = 2 := rfl
def B9o (a:List UInt64):List UInt64:=T4 (T4 (Lx (2*E8 a 0) (E8 a 3)) (2*E8 a 1) (E8 a 2)) (E8 a 4) (19*E8 a 4)
@[simp, go_sem] theorem D5m (a : List UInt64) : (B9o a).length = 2 := rfl
def B9m (a:List UInt64):List UInt64:=T4 (T4 (Lx (2*E8 a 0) (E8 a 4)) (2*E8 a 1) (E8 a 3)) (E8 a 2) (E8 a 2)
@[simp, go_sem] theorem D3p (a : List UInt64) : (B9m a).length = 2 := rfl
def fsq (a:List UInt64):List UInt64:=Jr (C0g a) (B9x a) (C0h a) (B9o a) (B9m a)
@[simp, go_sem] theorem E0s (a : List UInt64) : (fsq a).length = 5 := rfl
set_option maxRecDepth 100000
theorem Yo (a:List UInt64) (ha:a.length=5) (w:World):Calls Tryz.prog 201 #[F8 a] w fun e w'=>e=.returned (F8 (fsq a))∧Below w.heap.size w w':=by
 revert a;refine A8a fun a0 a1 a2 a3 a4=>?_;let a:=[a0,a1,a2,a3,a4]
 let c:UInt64:=19
 let t:UInt64:=2
 exact H7 (g:=gE) 100 (avs a) ([Ux t a0,Ux t a1,Ux t a2,Ux c a3,Ux c a4]++(A6o a0 a0 [(t*a1,c*a4),(t*a2,c*a3)]++(A6o (t*a0) a1 [(t*a2,c*a4),(a3,c*a3)]++([D8e (t*a0) a2,C7r (Lx (t*a0) a2) rfl a1 a1,Ux t a3,C7r (T4 (Lx (t*a0) a2) a1 a1) rfl (t*a3) (c*a4)] ++
  (A6o (t*a0) a3 [(t*a1,a2),(a4,c*a4)]++(A6o (t*a0) a4 [(t*a1,a3),(a2,a2)]++[dE5 (Tb (C0g a) (B9x a) (C0h a) (B9o a) (B9m a) rfl rfl rfl rfl rfl)])))))) F9 Tryz.func201 (by kernel_rfl)
end
section
variable {w W : World} {l : List (TypeId × List Value)} {t : TypeId} {cs : List Value}
theorem KL' (i : Nat) (h : W = Q6 w l) (e : l[i]? = some (t, cs)) : Bk W (w.heap.size + i) t cs := h ▸ E0 _ w i _ _ e
theorem KZ' (h : W = Q6 w l) (e : l[0]? = some (t, cs)) : Bk W w.heap.size t cs := h ▸ E0 _ w 0 _ _ e
theorem BL' (h : W = Q6 w l) : Below w.heap.size w W := h ▸ H6 _ _
theorem ZL' (n : Nat) (h : W = Q6 w l) (e : l.length = n) : w.heap.size + n ≤ W.heap.size := by rw [h, O7, e]; exact Nat.le_refl _
theorem SL' (n : Nat) (h : W = Q6 w l) (e : l.length = n) : W.heap.size = w.heap.size + n := by rw [h, O7, e]
end
end Go.Proofs.YtdfpoofbgjilgaaGreat
