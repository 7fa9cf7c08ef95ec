/- A part of the proof of AuditTells. -/
import Derived.Test.YtmllnpokbbabhaaGreatTai
import Derived.Test.YtmllnpokbbabhaaGreatTak
import Derived.Test.YtmllnpokbbabhaaGreatTal
set_option linter.unusedVariables false
set_option linter.unusedSimpArgs false
set_option maxRecDepth 100000
set_option maxHeartbeats 40000000
namespace Go.Proofs.YtmllnpokbbabhaaGreat
open Go Go.RowKit Sh
section
def Dq (P:Program) (s:St):ResultVar→Option (Bool×List Sg)
 | .tmp t=>match s.σ[t]? with
  | some (.v a l)=>some (a,l)
  | _=>none
 | .cell t T=>do
  let (b,f) ←(s.σ[t]?).bind Jg
  let (_,cs) ←s.blk b
  let n ←Iy P T
  let a ←Wj P T
  let l ←Ws cs f n
  if (!a&&l.length != 1)||n==0||(!a&&n != 1) then none else some (a,l)
def C5a (P:Program) (s:St):List ResultVar→Option SV
 | []=>some (.tup [])
 | [r]=>(Dq P s r).map fun x=>.v x.1 x.2
 | [r1,r2]=>do let x ←Dq P s r1;let y ←Dq P s r2;some (.tup [x,y])
 | [r1,r2,r3]=>do let x ←Dq P s r1;let y ←Dq P s r2;let z ←Dq P s r3;some (.tup [x,y,z])
 | _=>none
def Na (σ:List SV) (n:Nat):St:=⟨σ++List.replicate (n-σ.length) (.v false [.c undef]),[],[]⟩
def nm0:Nat→Nm:=fun _=>⟨0,jnk,rfl⟩
def Dep.post (ρ:List Av) (Φ:Fcts) (d:Dep) (lo:Nat) (μ:Nat→Nm) (W:World):Prop:=
 d.bs.foldr (fun x p=>(Bk W (μ x.1).b x.2.1 (cellsL ρ μ x.2.2)∧lo≤(μ x.1).b)∧p) (d.ds.foldr (fun n p=>Φ.at n μ W∧p) True)
def B3d (w w' W:World):Prop:=w'.heap.size≤W.heap.size∧∀k,w.heap.size≤k→k<w'.heap.size→W.heap[k]?=w'.heap[k]?
def D5k (P:Program) (g:Cfg) (fuel:Nat) (fn:Func) (ρ:List Av):Option (Array Value×List Eqn×((Nat→Nm)→Value)×(Nat→(Nat→Nm)→World→Prop)×Bool):=
 match fn.body,Ja P g 0 fn.params.toList with
 | some c,some (ps,na)=>match A4l P g ρ fuel c (Na (ps.map fun x=>.v x.1 x.2) fn.ntmps) na with
  | some (.ext _,_,_,_)=>none
  | some (_,s',_,qs)=>match C5a P s' fn.results.toList with
   | some r=>some ((ps.map fun x=>cv ρ nm0 x.1 x.2).toArray,qs.map (Rq.eqn ρ g.f),fun μ=>r.val ρ μ,fun lo μ W=>(Ii s' g.f.sup [r]).post ρ g.f lo μ W,(Ii s' g.f.sup [r]).ds.isEmpty)
   | none=>none
  | none=>none
 | _,_=>none
def E5u (tmps:Array Value):ResultVar→Sem Value
 | .tmp t=>pure (tmps.getD t undef)
 | .cell b t=>do loadVar t (←asAddr (tmps.getD b undef))
section
variable {P : Program} {g : Cfg} {ρ : List Av}
theorem B8e (fn:Func) (tmps:Array Value):results fn tmps=(do let vs ←fn.results.mapM (E5u tmps);pure (if h:vs.size=1 then vs[0] else .tuple vs)):=by
 unfold results;congr 1
theorem B5i {x:SV} {b o:Nat} (h:Jg x=some (b,o)):x.known=true:=by
 cases x with
 | v a l=>rfl
 | tup l=>rfl
 | any=>cases h
theorem Fe {s:St} {μ:Nat→Nm} {Φ:Fcts} {S:World→Prop} {a:Act} {w:World} {r:ResultVar} {x:Bool×List Sg} (hR:Rel ρ Φ S s μ a w) (h:Dq P s r=some x) :
 (E5u a.tmps r).run P w=.ok (cv ρ μ x.1 x.2) w:=by
 cases r with
 | tmp t=>
  simp only[Dq]at h;split at h
  ·rename_i ag l hx
   cases h;have:=hR.tm t _ hx rfl;show Result.ok (a.tmps.getD t undef) w=_;rw[this];rfl
  ·cases h
 | cell t T=>
  simp only[Dq,bind,Option.bind]at h;cases hx:s.σ[t]? with
  | none=>rw[hx]at h;cases h
  | some y=>
   rw[hx]at h;simp only at h;cases hp:Jg y with
   | none=>rw[hp]at h;cases h
   | some bf=>
    obtain⟨b,f⟩:=bf;rw[hp]at h;simp only at h;cases hb:s.blk b with
    | none=>rw[hb]at h;cases h
    | some Tc=>
     obtain⟨T',cs⟩:=Tc;rw[hb]at h;simp only at h;cases hs:Iy P T with
     | none=>rw[hs]at h;cases h
     | some n=>
      rw[hs]at h;simp only at h;cases ha:Wj P T with
      | none=>rw[ha]at h;cases h
      | some ag=>
       rw[ha]at h;simp only at h;cases hc:Ws cs f n with
       | none=>rw[hc]at h;cases h
       | some l=>
        rw[hc]at h;simp only at h;split at h
        ·cases h
        ·rename_i hcond
         cases h;have h1:=A6s (P:=P) (w:=w) (t:=T) (hR.bl b T' cs hb) hs ha hc (by intro h0;subst h0;simp at hcond) (by intro h0;subst h0;simp at hcond;exact ⟨hcond.1.1,hcond.2⟩);have h2:=hR.tm t _ hx (B5i hp);rw[Ht hp]at h2;show (do loadVar T (←asAddr (a.tmps.getD t undef)):Sem Value).run P w=_;rw[h2];exact h1
theorem B2f {fn:Func} {s:St} {μ:Nat→Nm} {Φ:Fcts} {S:World→Prop} {a:Act} {w:World} {r:SV} (hR:Rel ρ Φ S s μ a w) (h:C5a P s fn.results.toList=some r):(results fn a.tmps).run P w=.ok (r.val ρ μ) w:=by
 have hl:fn.results=fn.results.toList.toArray:=by simp
 generalize fn.results.toList=rs at h hl;rw[B8e,hl];unfold C5a at h;split at h
 ·cases h;simp[SV.val]
 ·rename_i r1
  cases h1:Dq P s r1 with
  | none=>rw[h1]at h;cases h
  | some x=>
   rw[h1]at h;cases h;simp[Fe hR h1,SV.val]
 ·rename_i r1 r2
  simp only[bind,Option.bind]at h;cases h1:Dq P s r1 with
  | none=>rw[h1]at h;cases h
  | some x=>
   rw[h1]at h;simp only at h;cases h2:Dq P s r2 with
   | none=>rw[h2]at h;cases h
   | some y=>
    rw[h2]at h;cases h;simp[Fe hR h1,Fe hR h2,SV.val]
 ·rename_i r1 r2 r3
  simp only[bind,Option.bind]at h;cases h1:Dq P s r1 with
  | none=>rw[h1]at h;cases h
  | some x=>
   rw[h1]at h;simp only at h;cases h2:Dq P s r2 with
   | none=>rw[h2]at h;cases h
   | some y=>
    rw[h2]at h;simp only at h;cases h3:Dq P s r3 with
    | none=>rw[h3]at h;cases h
    | some z=>
     rw[h3]at h;cases h;simp[Fe hR h1,Fe hR h2,Fe hR h3,SV.val]
 ·cases h
theorem A6l {Φ:Fcts} {xs:List (Bool×List Sg)} {n:Nat} (hn:(xs.all fun y=>y.2.all (·.okn fun _=>false))=true) (w:World) :
 Rel ρ Φ (fun W=>Below w.heap.size w W) (Na (xs.map fun x=>.v x.1 x.2) n) nm0 { tmps:=(xs.map fun x=>cv ρ nm0 x.1 x.2).toArray++Array.replicate (n-(xs.map fun x=>cv ρ nm0 x.1 x.2).toArray.size) undef,defers:=[] } w:=by
 have aA:∀b,(Na (xs.map fun x=>SV.v x.1 x.2) n).blk b=none:=fun b=>rfl;have hσ:∀(t:Nat) x,(Na (xs.map fun x=>SV.v x.1 x.2) n).σ[t]?=some x→(∃y,xs[t]?=some y∧x=.v y.1 y.2)∨(xs.length≤t∧t<xs.length+(n-xs.length)∧x=.v false [.c undef]):=by
  intro t x hx;simp only[Na]at hx;rcases Nat.lt_or_ge t xs.length with h | h
  ·rw[List.getElem?_append_left (by simpa using h)]at hx;simp only[List.getElem?_map,Option.map_eq_some_iff]at hx;obtain⟨y,h1,h2⟩:=hx;exact .inl ⟨y,h1,h2.symm⟩
  ·rw[List.getElem?_append_right (by simpa using h)]at hx;have h1:=(List.getElem?_eq_some_iff.1 hx);obtain⟨h2,h3⟩:=h1;simp only[List.length_map,List.length_replicate]at h2;exact .inr ⟨h,by omega,by rw[←h3];simp⟩
 refine ⟨by simp[Na],rfl,fun t x hx _=>?_,fun b T cs hb=>(by rw[aA]at hb;cases hb),fun b b' hb=>(by rw[aA]at hb;cases hb),fun t x hx=>?_,fun b T cs hb=>(by rw[aA]at hb;cases hb),fun n hn=>(by cases hn),fun n hn=>(by cases hn),fun W hW=>⟨hW.os,hW.tape,hW.output,hW.size,fun k hk=>hW.block k hk fun b hb=>(by rw[aA]at hb;cases hb)⟩⟩
 ·rcases hσ t x hx with ⟨y,h1,rfl⟩ | ⟨h1,h2,rfl⟩
  ·have h3:=(List.getElem?_eq_some_iff.1 h1).1;simp only[Array.getD_eq_getD_getElem?];rw[Array.getElem?_append_left (by simpa using h3)];simp[h1,SV.val]
  ·simp only[Array.getD_eq_getD_getElem?];rw[Array.getElem?_append_right (by simpa using h1)];simp;rw[Array.getElem?_replicate];split<;>rfl
 ·rcases hσ t x hx with ⟨y,h1,rfl⟩ | ⟨h1,h2,rfl⟩
  ·have h3:=List.all_eq_true.1 hn y (List.mem_of_getElem? h1);exact Pd (fun b hb=>by cases hb) h3
  ·rfl
theorem C8g {Φ:Fcts} {d:Dep} {lo:Nat} {μ:Nat→Nm} {w:World} (hB:∀x∈d.bs,Bk w (μ x.1).b x.2.1 (cellsL ρ μ x.2.2)∧lo≤(μ x.1).b) (hD:∀n∈d.ds,Φ.at n μ w):d.post ρ Φ lo μ w:=by
 unfold Dep.post;have h1:∀l:List Nat,(∀n∈l,Φ.at n μ w)→l.foldr (fun n p=>Φ.at n μ w∧p) True:=by
  intro l;induction l with
  | nil=>intro _;trivial
  | cons n l ih=>intro h;exact ⟨h n (by simp),ih fun m hm=>h m (by simp[hm])⟩
 have h2:∀(l:List (Nat×TypeId×List Sg)) (p:Prop),p→(∀x∈l,Bk w (μ x.1).b x.2.1 (cellsL ρ μ x.2.2)∧lo≤(μ x.1).b)→l.foldr (fun x p=>(Bk w (μ x.1).b x.2.1 (cellsL ρ μ x.2.2)∧lo≤(μ x.1).b)∧p) p:=by
  intro l p hp;induction l with
  | nil=>intro _;exact hp
  | cons x l ih=>intro h;exact ⟨h x (by simp),ih fun y hy=>h y (by simp[hy])⟩
 exact h2 _ _ (h1 _ hD) hB
theorem A1k {f fuel:Nat} {fn:Func} {args:Array Value} {es:List Eqn} {v:(Nat→Nm)→Value} {q:Nat→(Nat→Nm)→World→Prop} {nf:Bool} (hm:P.follows .mixedOrders=true) (hf:P.funcs[f]?=some fn) (h:D5k P g fuel fn ρ=some (args,es,v,q,nf)) (w:World)
 (hes:∀e∈es,e.Ok P g.f (fun W=>Below w.heap.size w W)) :
 Calls P f args w fun e w'=>∃μ,e=.returned (v μ)∧Below w.heap.size w w'∧∀W,B3d w w' W→(nf=true∨Below w.heap.size w W)→q w.heap.size μ W:=by
 unfold D5k at h;split at h
 ·rename_i c ps na hb hps
  have aE:=Uk hps (fun _=>false);have aF:∀(k:XK) (s':St) (aC:Nat) (qs:List Rq),A4l P g ρ fuel c (Na (ps.map fun x=>.v x.1 x.2) fn.ntmps) na=some (k,s',aC,qs)→(k=.nrm∨k=.ret)→
   (match C5a P s' fn.results.toList with
   | some r=>some ((ps.map fun x=>cv ρ nm0 x.1 x.2).toArray,qs.map (Rq.eqn ρ g.f),(fun μ=>r.val ρ μ),fun lo μ W=>(Ii s' g.f.sup [r]).post ρ g.f lo μ W,(Ii s' g.f.sup [r]).ds.isEmpty)
   | none=>none)=some (args,es,v,q,nf)→Calls P f args w fun e w'=>∃μ,e=.returned (v μ)∧Below w.heap.size w w'∧∀W,B3d w w' W→(nf=true∨Below w.heap.size w W)→q w.heap.size μ W:=by
   intro k s' aC qs aA hk aB;split at aB
   ·rename_i r hr
    cases aB;refine calls_of_wp hf hb ?_;refine Ay hm fuel c _ na _ aA (fun q hq=>hes _ (List.mem_map_of_mem hq)) nm0 _ w _ (A6l aE w) fun μ' a' w' hR hG=>?_;have h1:=B2f (fn:=fn) hR hr;have h3:Below w.heap.size w w':=⟨hG.kp.os,hG.kp.tape,hG.kp.output,hG.kp.size,fun k hk=>hG.kp.block k hk fun b hb=>by cases hb⟩;have h4:∀W,B3d w w' W→((Ii s' g.f.sup [r]).ds.isEmpty=true∨Below w.heap.size w W)→(Ii s' g.f.sup [r]).post ρ g.f w.heap.size μ' W:=by
     intro W hW aG;refine C8g (fun x hx=>?_) fun n hn=>?_
     ·obtain⟨n,hn,aD⟩:=List.mem_filterMap.1 hx;cases hbk:s'.blk n with
      | none=>rw[hbk]at aD;cases aD
      | some u=>
       rw[hbk]at aD;cases aD;have h5:=hR.bl n u.1 u.2 hbk;have h6:=hG.new n (by rw[hbk];rfl) (Nat.zero_le _);exact ⟨(hW.2 _ h6 h5.lt).trans h5,h6⟩
     ·have hb:Below w.heap.size w W:=by
       rcases aG with h | h
       ·rw[List.isEmpty_iff.1 h]at hn;cases hn
       ·exact h
      have aH:n∈s'.dy:=by simpa using (List.mem_filter.1 hn).2
      obtain⟨lo,hi,h6,h7,_,h8⟩:=hR.fx n aH;have h9:=h6 w.heap.size fun W hW=>hW.size;exact h8 W hW.1 (fun k hlo hhi=>hW.2 k (by omega) (by omega)) hb
    rcases hk with rfl | rfl
    ·exact ⟨hR.df,_,h1,μ',rfl,h3,h4⟩
    ·exact ⟨hR.df,_,h1,μ',rfl,h3,h4⟩
   ·cases aB
  split at h
  ·cases h
  ·rename_i k s' aC qs hne aA
   refine aF k s' aC qs aA ?_ h;cases k with
   | nrm=>exact .inl rfl
   | ext id=>exact (hne id rfl).elim
   | ret=>exact .inr rfl
  ·cases h
 ·cases h
end
structure DC (P : Program) (Φ : Fcts) (S : World → Prop) where
 e:Eqn
 ok:e.Ok P Φ S
 res:List Av
def noF:Fcts:=⟨fun _=>[],fun _ _ _=>True⟩
theorem E8 {P:Program} {g:Cfg} {f:Nat} {fn:Func} {args:Array Value} {v:Value} (fuel:Nat) (ρ0:List Av) {w:World} (ds:List (DC P g.f (fun W=>Below w.heap.size w W))) (hm:P.follows .mixedOrders=true) (hf:P.funcs[f]?=some fn)
 (h:D5k P g fuel fn (ρ0++ds.flatMap (·.res))=some (args,ds.map (·.e),(fun _=>v),(fun _ _ _=>True),true)):Calls P f args w fun e w'=>e=.returned v∧Below w.heap.size w w':=
 (A1k hm hf h w fun e he=>by obtain⟨d,_,rfl⟩:=List.mem_map.1 he;exact d.ok).mono fun e w' ⟨_,h1,h2,_⟩=>⟨h1,h2⟩
theorem C7w {P:Program} {g:Cfg} {f:Nat} {fn:Func} {args:Array Value} {v:(Nat→Nm)→Value} {q:Nat→(Nat→Nm)→World→Prop} {nf:Bool} (fuel:Nat) (ρ0:List Av) {w:World} (ds:List (DC P g.f (fun W=>Below w.heap.size w W))) (hm:P.follows .mixedOrders=true) (hf:P.funcs[f]?=some fn)
 (h:D5k P g fuel fn (ρ0++ds.flatMap (·.res))=some (args,ds.map (·.e),v,q,nf)):Calls P f args w fun e w'=>∃μ,e=.returned (v μ)∧Below w.heap.size w w'∧∀W,B3d w w' W→(nf=true∨Below w.heap.size w W)→q w.heap.size μ W:=
 A1k hm hf h w fun e he=>by obtain⟨d,_,rfl⟩:=List.mem_map.1 he;exact d.ok
end
section
def Ca (l:List UInt64) (k:Nat) (h:l.length=k):Av:=⟨E4 l,k,by simp[h],fun v hv=>by
 have:=C1j l;rw[Array.all_eq_true_iff_forall_mem]at this;exact this v (by simpa using hv)⟩
def Km (l:List UInt8) (k:Nat) (h:l.length=k):Av:=⟨c8 l,k,by simp[h],fun v hv=>by
 have:=C9f l;rw[Array.all_eq_true_iff_forall_mem]at this;exact this v (by simpa using hv)⟩
def Zi (v:Value) (h:v.oneCell'=true):Av:=⟨[v],1,rfl,fun u hu=>by rw[List.mem_singleton.1 hu];exact h⟩
section
variable {f : FuncId} {args : Array Value} {Φ : Fcts} {S : World → Prop}
def dE {l:List UInt64} (h:∀W,Calls Tryz.prog f args W fun e W'=>e=.returned (H7 l)∧Below W.heap.size W W') (hl:l.length=5):DC Tryz.prog Φ S:=⟨.call f (fun _=>args) (fun _=>(H7 l)) none (fun _ _=>True),fun _ W _ _=>h W,[Ca l 5 hl]⟩
def dR {l:List UInt64} (k:Nat) (h:∀W,Calls Tryz.prog f args W fun e W'=>e=.returned (H7 l)∧Below W.heap.size W W') (hl:l.length=k):DC Tryz.prog Φ S:=⟨.call f (fun _=>args) (fun _=>(H7 l)) none (fun _ _=>True),fun _ W _ _=>h W,[Ca l k hl]⟩
def dV {v:Value} (h:∀W,Calls Tryz.prog f args W fun e W'=>e=.returned v∧Below W.heap.size W W') (hv:v.oneCell'=true):DC Tryz.prog Φ S:=⟨.call f (fun _=>args) (fun _=>v) none (fun _ _=>True),fun _ W _ _=>h W,[Zi v hv]⟩
def dH {l:List UInt8} (h:∀W,Calls Tryz.prog f args W fun e W'=>e=.returned (A8 l)∧Below W.heap.size W W') (hl:l.length=32):DC Tryz.prog Φ S:=⟨.call f (fun _=>args) (fun _=>(A8 l)) none (fun _ _=>True),fun _ W _ _=>h W,[Km l 32 hl]⟩
def dB {b:Bool} (h:∀W,Calls Tryz.prog f args W fun e W'=>e=.returned (.bool b)∧Below W.heap.size W W'):DC Tryz.prog Φ S:=⟨.call f (fun _=>args) (fun _=>(.bool b)) none (fun _ _=>True),fun _ W _ _=>h W,[Zi (.bool b) rfl]⟩
def dEB {l:List UInt64} {b:Bool} (h:∀W,Calls Tryz.prog f args W fun e W'=>e=.returned (.tuple #[H7 l,.bool b])∧Below W.heap.size W W') (hl:l.length=5):DC Tryz.prog Φ S:=⟨.call f (fun _=>args) (fun _=>(.tuple #[H7 l,.bool b])) none (fun _ _=>True),fun _ W _ _=>h W,[Ca l 5 hl,Zi (.bool b) rfl]⟩
def dEE {l m:List UInt64} (h:∀W,Calls Tryz.prog f args W fun e W'=>e=.returned (.tuple #[H7 l,H7 m])∧Below W.heap.size W W') (hl:l.length=5) (hm:m.length=5):DC Tryz.prog Φ S:=⟨.call f (fun _=>args) (fun _=>(.tuple #[H7 l,H7 m])) none (fun _ _=>True),fun _ W _ _=>h W,[Ca l 5 hl,Ca m 5 hm]⟩
end
theorem E7:Tryz.prog.follows .mixedOrders=true:=by kernel_rfl
abbrev DC1 (w : World) := DC Tryz.prog noF (fun W => Below w.heap.size w W)
abbrev DL (w : World) := List (DC1 w)
def Vx {Φ:Fcts} {S:World→Prop} {op:BinOp} {t:TypeId} {x y v:Value} (h:∀(X Y:Operand) W,(do eqGuard op t X Y x y;binOp op t x y:Sem Value).run Tryz.prog W=.ok v W) (ho:v.oneCell'=true):DC Tryz.prog Φ S:=
 ⟨.bin op t (fun _=>x) (fun _=>y) (fun _=>v) (fun _ _=>True),fun _ X Y W _ _=>h X Y W,[Zi v ho]⟩
def D2k {Φ:Fcts} {S:World→Prop} {s:Sem Value} {v:Value} (h:∀W,s.run Tryz.prog W=.ok v W) (res:List Av):DC Tryz.prog Φ S:=
 ⟨.sem (fun _=>s) (fun _=>v) none (fun _ _=>True),fun _ W _ _=>h W,res⟩
def B5c {Φ:Fcts} {S:World→Prop} {op:BinOp} {x y v:Value} (h:∀W,(binOp op 99 x y).run Tryz.prog W=.ok v W) (hg:∀(X Y:Operand) W,(eqGuard op 99 X Y x y).run Tryz.prog W=.ok () W) (ho:v.oneCell'=true):DC Tryz.prog Φ S:=
 Vx (op:=op) (t:=99) (x:=x) (y:=y) (v:=v) (fun X Y W=>by simp only[Sem.run_bind,hg X Y W,Result.andThen_ok,h W]) ho
abbrev Nu (x : UInt64) : Value := .int .u64 (E6 x)
def Zl {Φ:Fcts} {S:World→Prop} (x y:UInt64):DC Tryz.prog Φ S:=B5c (op:=.add) (x:=Nu x) (y:=Nu y) (v:=Nu (x+y)) (fun W=>by rw[show binOp .add 99 (Nu x) (Nu y)=Op.intArith .add .u64 (E6 x) (E6 y) from rfl,add64];rfl) (fun _ _ _=>rfl) rfl
def E3s {Φ:Fcts} {S:World→Prop} (x y:UInt64):DC Tryz.prog Φ S:=B5c (op:=.sub) (x:=Nu x) (y:=Nu y) (v:=Nu (x-y)) (fun W=>by rw[show binOp .sub 99 (Nu x) (Nu y)=Op.intArith .sub .u64 (E6 x) (E6 y) from rfl,D6z];rfl) (fun _ _ _=>rfl) rfl
def Xj {Φ:Fcts} {S:World→Prop} (x y:UInt64):DC Tryz.prog Φ S:=B5c (op:=.mul) (x:=Nu x) (y:=Nu y) (v:=Nu (x*y)) (fun W=>by rw[show binOp .mul 99 (Nu x) (Nu y)=Op.intArith .mul .u64 (E6 x) (E6 y) from rfl,D8d];rfl) (fun _ _ _=>rfl) rfl
def Et {Φ:Fcts} {S:World→Prop} (x y:UInt64):DC Tryz.prog Φ S:=B5c (op:=.and) (x:=Nu x) (y:=Nu y) (v:=Nu (x &&& y)) (fun W=>by rw[show binOp .and 99 (Nu x) (Nu y)=Op.intBits .and .u64 (E6 x) (E6 y) from rfl,C7l];rfl) (fun _ _ _=>rfl) rfl
def Fb {Φ:Fcts} {S:World→Prop} (x:UInt64) (k:IntKind) (s:Nat) (hs:s<64):DC Tryz.prog Φ S:=B5c (op:=.shr) (x:=Nu x) (y:=.int k (s:Int)) (v:=Nu (x >>> UInt64.ofNat s)) (fun W=>by rw[show binOp .shr 99 (Nu x) (.int k (s:Int))=Op.shift .shr .u64 (E6 x) k (s:Int) from rfl,Fr x k s hs];rfl) (fun _ _ _=>rfl) rfl
def Zh {Φ:Fcts} {S:World→Prop} (x y:UInt64):DC Tryz.prog Φ S:=B5c (op:=.or) (x:=Nu x) (y:=Nu y) (v:=Nu (x ||| y)) (fun W=>by rw[show binOp .or 99 (Nu x) (Nu y)=Op.intBits .or .u64 (E6 x) (E6 y) from rfl,F0b];rfl) (fun _ _ _=>rfl) rfl
def Ph {Φ:Fcts} {S:World→Prop} (x:UInt64) (k:IntKind) (s:Nat) (hs:s<64):DC Tryz.prog Φ S:=B5c (op:=.shl) (x:=Nu x) (y:=.int k (s:Int)) (v:=Nu (x <<< UInt64.ofNat s)) (fun W=>by rw[show binOp .shl 99 (Nu x) (.int k (s:Int))=Op.shift .shl .u64 (E6 x) k (s:Int) from rfl,A8m x k s hs];rfl) (fun _ _ _=>rfl) rfl
def D8j {Φ:Fcts} {S:World→Prop} (x y:UInt64) {b:Bool} (hb:(x != y)=b):DC Tryz.prog Φ S:=B5c (op:=.neq) (x:=Nu x) (y:=Nu y) (v:=.bool b) (fun W=>by rw[show binOp .neq 99 (Nu x) (Nu y)=pure (.bool (E6 x != E6 y)) from rfl,D3z,hb];rfl) (fun _ _ _=>rfl) rfl
def F0j {Φ:Fcts} {S:World→Prop} (x:UInt64):DC Tryz.prog Φ S:=D2k (s:=convert 99 5 (Nu x)) (v:=.int .u8 (n8 x.toUInt8)) (fun W=>by rw[←C7c];kernel_rfl) [Km [x.toUInt8] 1 rfl]
def E3l {Φ:Fcts} {S:World→Prop} (x:UInt8):DC Tryz.prog Φ S:=D2k (s:=convert 5 99 (.int .u8 (n8 x))) (v:=.int .u64 (E6 x.toUInt64)) (fun W=>by rw[←C8l];kernel_rfl) [Ca [x.toUInt64] 1 rfl]
def avs (l:List UInt64):List Av:=l.map fun x=>Ca [x] 1 rfl
def dE5 {Φ:Fcts} {S:World→Prop} {f:FuncId} {args:Array Value} {l:List UInt64} (h:∀W,Calls Tryz.prog f args W fun e W'=>e=.returned (H7 l)∧Below W.heap.size W W'):DC Tryz.prog Φ S:=⟨.call f (fun _=>args) (fun _=>(H7 l)) none (fun _ _=>True),fun _ W _ _=>h W,avs l⟩
theorem B0l {p:List UInt64→Prop} (h:∀a b c d e,p [a,b,c,d,e]):∀l:List UInt64,l.length=5→p l
 | [a,b,c,d,e],_=>h a b c d e
theorem ex5:∀l:List UInt64,l.length=5→∃a b c d e,l=[a,b,c,d,e]:=B0l fun a b c d e=>⟨a,b,c,d,e,rfl⟩
theorem D0z {p:List UInt64→Prop} (h:∀a b,p [a,b]):∀l:List UInt64,l.length=2→p l
 | [a,b],_=>h a b
def gE:Cfg:=⟨fun t=>if t=180 then some [1,1,1,1,1] else none,fun _=>none,noF⟩
def gE2:Cfg:=⟨fun t=>if t=281 then some [1,1] else gE.cut t,fun _=>none,noF⟩
theorem C0k (w:World):(sizeOf 5).run Tryz.prog w=.ok 1 w:=by
 have hi:(Tryz.prog.info? 5).map (·.size)=some 1:=by kernel_rfl
 cases hq:Tryz.prog.info? 5 with
 | none=>simp[hq]at hi
 | some j=>simp[hq]at hi;simp[sizeOf,typeInfo,hq,hi]
theorem C1x (l m:List UInt8) (hl:l.length=32) (hm:m.length=32) (X Y:Operand) (W:World):(do eqGuard .eql 40 X Y (A8 l) (A8 m);binOp .eql 40 (A8 l) (A8 m):Sem Value).run Tryz.prog W=.ok (.bool (l==m)) W:=by
 have aA:(eqGuard .eql 40 X Y (A8 l) (A8 m)).run Tryz.prog W=.ok () W:=run_eqGuard_agg (P:=Tryz.prog) W .eql 40 X Y _ _ (by kernel_rfl);have e1:(binOp .eql 40 (A8 l) (A8 m)).run Tryz.prog W=.ok (.bool (l==m)) W:=run_eql_bytes (P:=Tryz.prog) W 40 5 32 Tryz.underlying40 Tryz.underlying5 C0k l m hl hm;simp only[Sem.run_bind,aA,Result.andThen_ok,e1]
theorem C2f (l m:List UInt8) (hl:l.length=32) (hm:m.length=32) (X Y:Operand) (W:World):(do eqGuard .neq 40 X Y (A8 l) (A8 m);binOp .neq 40 (A8 l) (A8 m):Sem Value).run Tryz.prog W=.ok (.bool (!(l==m))) W:=by
 have aA:(eqGuard .neq 40 X Y (A8 l) (A8 m)).run Tryz.prog W=.ok () W:=run_eqGuard_agg (P:=Tryz.prog) W .neq 40 X Y _ _ (by kernel_rfl);have e1:(binOp .neq 40 (A8 l) (A8 m)).run Tryz.prog W=.ok (.bool (!(l==m))) W:=by rw[A8,A8,run_neq_struct];exact congrArg (fun r:Result Bool=>r.andThen fun b w'=>Result.ok (Value.bool (!b)) w') (run_equalIn_bytes (P:=Tryz.prog) W 9998 40 5 32 Tryz.underlying40 Tryz.underlying5 C0k l m hl hm)
 simp only[Sem.run_bind,aA,Result.andThen_ok,e1]
def dEq {Φ:Fcts} {S:World→Prop} (l m:List UInt8) (hl:l.length=32) (hm:m.length=32) {b:Bool} (hb:(l==m)=b):DC Tryz.prog Φ S:=Vx (op:=.eql) (t:=40) (x:=A8 l) (y:=A8 m) (v:=.bool b) (by rw[←hb];exact C1x l m hl hm) rfl
def dNe {Φ:Fcts} {S:World→Prop} (l m:List UInt8) (hl:l.length=32) (hm:m.length=32) {b:Bool} (hb:(l==m)=b):DC Tryz.prog Φ S:=Vx (op:=.neq) (t:=40) (x:=A8 l) (y:=A8 m) (v:=.bool (!b)) (by rw[←hb];exact C2f l m hl hm) rfl
def dO8 {Φ:Fcts} {S:World→Prop} {op:BinOp} {x y v:Value} (h:∀W,(binOp op 5 x y).run Tryz.prog W=.ok v W) (hg:∀(X Y:Operand) W,(eqGuard op 5 X Y x y).run Tryz.prog W=.ok () W) (ho:v.oneCell'=true):DC Tryz.prog Φ S:=
 Vx (op:=op) (t:=5) (x:=x) (y:=y) (v:=v) (fun X Y W=>by simp only[Sem.run_bind,hg X Y W,Result.andThen_ok,h W]) ho
def dOr {Φ:Fcts} {S:World→Prop} (x y:UInt8):DC Tryz.prog Φ S:=dO8 (op:=.or) (x:=.int .u8 (n8 x)) (y:=.int .u8 (n8 y)) (v:=.int .u8 (n8 (x ||| y))) (fun W=>by rw[show binOp .or 5 (.int .u8 (n8 x)) (.int .u8 (n8 y))=Op.intBits .or .u8 (n8 x) (n8 y) from rfl,or8];rfl) (fun _ _ _=>rfl) rfl
def C4o {Φ:Fcts} {S:World→Prop} (x y:UInt8):DC Tryz.prog Φ S:=dO8 (op:=.and) (x:=.int .u8 (n8 x)) (y:=.int .u8 (n8 y)) (v:=.int .u8 (n8 (x &&& y))) (fun W=>by rw[show binOp .and 5 (.int .u8 (n8 x)) (.int .u8 (n8 y))=Op.intBits .and .u8 (n8 x) (n8 y) from rfl,E3b];rfl) (fun _ _ _=>rfl) rfl
def E1e {Φ:Fcts} {S:World→Prop} (x:UInt8) (k:IntKind) (s:Nat) (hs:s<8):DC Tryz.prog Φ S:=dO8 (op:=.shr) (x:=.int .u8 (n8 x)) (y:=.int k (s:Int)) (v:=.int .u8 (n8 (x >>> UInt8.ofNat s))) (fun W=>by rw[show binOp .shr 5 (.int .u8 (n8 x)) (.int k (s:Int))=Op.shift .shr .u8 (n8 x) k (s:Int) from rfl,Uw x k s hs];rfl) (fun _ _ _=>rfl) rfl
def D6o {Φ:Fcts} {S:World→Prop} (x y:UInt8) {b:Bool} (hb:(x==y)=b):DC Tryz.prog Φ S:=dO8 (op:=.eql) (x:=.int .u8 (n8 x)) (y:=.int .u8 (n8 y)) (v:=.bool b) (fun W=>by rw[show binOp .eql 5 (.int .u8 (n8 x)) (.int .u8 (n8 y))=pure (.bool (n8 x==n8 y)) from rfl,Wu,hb];rfl) (fun _ _ _=>rfl) rfl
def m32 (l:List UInt8):List UInt8:=(List.range 32).map (Sh.g8 l)
theorem A8v {l:List UInt8} (h:l.length=32):m32 l=l:=by
 apply List.ext_getElem?;intro j;unfold m32;rw[List.getElem?_map];by_cases hj:j<32
 ·rw[List.getElem?_range hj,List.getElem?_eq_getElem (by omega)];simp[Sh.g8,List.getD_eq_getElem?_getD,List.getElem?_eq_getElem (show j<l.length by omega)]
 ·rw[List.getElem?_eq_none (by simpa using hj),List.getElem?_eq_none (by omega)];rfl
def avm (l:List UInt8):List Av:=(List.range 32).map fun i=>Km [Sh.g8 l i] 1 rfl
def E4q {Φ:Fcts} {S:World→Prop} {f:FuncId} {args:Array Value} {l:List UInt8} (h:∀W,Calls Tryz.prog f args W fun e W'=>e=.returned (A8 l)∧Below W.heap.size W W') (hl:l.length=32):DC Tryz.prog Φ S:=⟨.call f (fun _=>args) (fun _=>A8 (m32 l)) none (fun _ _=>True),fun _ W _ _=>by rw[A8v hl];exact h W,avm l⟩
def E6j {Φ:Fcts} {S:World→Prop} (l m:List UInt8) (hl:l.length=32) (hm:m.length=32) {b:Bool} (hb:(l != m)=b):DC Tryz.prog Φ S:=Vx (op:=.neq) (t:=40) (x:=A8 (m32 l)) (y:=A8 (m32 m)) (v:=.bool b) (by rw[A8v hl,A8v hm,←hb];exact C2f l m hl hm) rfl
def D8z:Cfg:=⟨fun t=>if t=40 then some (List.replicate 32 1) else gE.cut t,fun _=>none,noF⟩
end
section
def Jh (f g:Nat→UInt64) (n i:Nat):List UInt64:=(List.range n).map fun j=>if j<i then f j else g j
@[simp, go_sem] theorem Qk (f g : Nat → UInt64) (n i : Nat) : (Jh f g n i).length = n := by simp [Jh]
theorem B5o {f g:Nat→UInt64} {n i j:Nat} (hj:j<n):E0 (Jh f g n i) j=if j<i then f j else g j:=by
 unfold E0 Jh;rw[List.getD_eq_getElem?_getD,List.getElem?_map,List.getElem?_range hj];rfl
theorem A1l {f g:Nat→UInt64} {n i:Nat} (hi:i<n) {x:UInt64} (hx:x=f i):(Jh f g n i).set i x=Jh f g n (i+1):=by
 subst hx;apply List.ext_getElem?;intro j;unfold Jh;rw[List.getElem?_set];by_cases h:i=j
 ·subst h;rw[if_pos rfl,if_pos (by simpa using hi),List.getElem?_map,List.getElem?_range hi];simp
 ·rw[if_neg h,List.getElem?_map,List.getElem?_map];by_cases hj:j<n
  ·rw[List.getElem?_range hj];simp only[Option.map_some];have:(j<i+1)↔(j<i):=by omega
   simp[this]
  ·rw[List.getElem?_eq_none (by simpa using hj)];rfl
theorem A6o {f:Nat→UInt64} {l:List UInt64} {n:Nat} (hl:l.length=n):Jh f (E0 l) n 0=l:=by
 apply List.ext_getElem?;intro j;unfold Jh;rw[List.getElem?_map];by_cases hj:j<n
 ·rw[List.getElem?_range hj,List.getElem?_eq_getElem (by omega)];simp[E0,List.getD_eq_getElem?_getD,List.getElem?_eq_getElem (show j<l.length by omega)]
 ·rw[List.getElem?_eq_none (by simpa using hj),List.getElem?_eq_none (by omega)];rfl
theorem B8m {f:Nat→UInt64} {n:Nat}:Jh f (fun _=>0) n 0=T9 n:=by
 apply List.ext_getElem?;intro j;unfold Jh T9;rw[List.getElem?_map,List.getElem?_replicate];by_cases hj:j<n
 ·rw[List.getElem?_range hj,if_pos hj];rfl
 ·rw[List.getElem?_eq_none (by simpa using hj),if_neg hj];rfl
set_option maxRecDepth 100000
theorem Ga (a:List UInt64) (ha:a.length=5) (w:World):Calls Tryz.prog 193 #[H7 a] w fun e w'=>e=.returned (H7 (Gv a))∧Below w.heap.size w w':=by
 revert a;refine B0l fun a b c d e=>?_;let l:=[a,b,c,d,e]
 let L:UInt64:=2251799813685247
 exact E8 (g:=gE) 100 (avs l) (((List.range 5).flatMap fun i=>[Fb (E0 l i) .u64 51 (by decide),Et (E0 l i) L])++([Xj 19 (e >>> 51),Zl (a &&& L) ((19:UInt64)*(e >>> 51))]++(List.range 4).map fun i=>Zl (E0 l (i+1) &&& L) (E0 l i >>> 51)))
  E7 Tryz.func193 (by kernel_rfl)
end
section
def Z0:World→List (TypeId×List Value)→World
 | w,[]=>w
 | w,x::l=>Z0 (w.alloc (.cells x.2.toArray x.1)) l
theorem Ls:∀(l:List (TypeId×List Value)) (w:World),Below w.heap.size w (Z0 w l)
 | [],w=>Below.refl _ _
 | x::l,w=>(U7 _ _).trans ((Ls l _).mono (by simp))
theorem Py:∀(l:List (TypeId×List Value)) (w:World),(Z0 w l).heap.size=w.heap.size+l.length
 | [],w=>rfl
 | x::l,w=>by rw[Z0,Py l];simp;omega
theorem Xx:∀(l:List (TypeId×List Value)) (w:World) (i:Nat) (t:TypeId) (cs:List Value),l[i]?=some (t,cs)→Bk (Z0 w l) (w.heap.size+i) t cs
 | [],_,_,_,_,h=>by simp at h
 | x::l,w,0,t,cs,h=>by
  simp only[List.getElem?_cons_zero,Option.some.injEq]at h;subst h;exact (Bk.new w t cs).below (Ls l _) (by simp)
 | x::l,w,i+1,t,cs,h=>by
  have:=Xx l (w.alloc (.cells x.2.toArray x.1)) i t cs (by simpa using h);rw[Z0];have e:(w.alloc (.cells x.2.toArray x.1)).heap.size+i=w.heap.size+(i+1):=by simp;omega
  rwa [e]at this
set_option maxRecDepth 100000
theorem Vt (t0 t1 t2 t3 t4:List UInt64) (h0:t0.length=2) (h1:t1.length=2) (h2:t2.length=2) (h3:t3.length=2) (h4:t4.length=2) (w:World):Calls Tryz.prog 192 #[H7 t0,H7 t1,H7 t2,H7 t3,H7 t4] w fun e w'=>e=.returned (H7 (Po t0 t1 t2 t3 t4))∧Below w.heap.size w w':=by
 revert t0;refine D0z fun a0 a1=>?_;revert t1;refine D0z fun b0 b1=>?_;revert t2;refine D0z fun c0 c1=>?_;revert t3;refine D0z fun d0 d1=>?_;revert t4;refine D0z fun e0 e1=>?_;let L:UInt64:=2251799813685247
 let c:UInt64:=19
 let o:=fun (x y:UInt64)=>(dV (D0v [x,y] rfl) rfl:DC1 w)
 exact E8 (g:=gE2) 100 (avs [a0,a1,b0,b1,c0,c1,d0,d1,e0,e1]) [o a0 a1,o b0 b1,o c0 c1,o d0 d1,o e0 e1,Et a1 L,Xj c (over [e0,e1]),Zl (a1 &&& L) (c*over [e0,e1]),
  Et b1 L,Zl (b1 &&& L) (over [a0,a1]),Et c1 L,Zl (c1 &&& L) (over [b0,b1]),Et d1 L,Zl (d1 &&& L) (over [c0,c1]),Et e1 L,Zl (e1 &&& L) (over [d0,d1]),dE5 (Ga (E0g [a0,a1] [b0,b1] [c0,c1] [d0,d1] [e0,e1]) rfl)] E7 Tryz.func192 (by kernel_rfl)
def B9q (a b:List UInt64):List UInt64:=V9 (V9 (V9 (V9 (Ns (E0 a 0) (E0 b 0)) (19*E0 a 1) (E0 b 4)) (19*E0 a 2) (E0 b 3)) (19*E0 a 3) (E0 b 2)) (19*E0 a 4) (E0 b 1)
def B8h (a b:List UInt64):List UInt64:=V9 (V9 (V9 (V9 (Ns (E0 a 0) (E0 b 1)) (E0 a 1) (E0 b 0)) (19*E0 a 2) (E0 b 4)) (19*E0 a 3) (E0 b 3)) (19*E0 a 4) (E0 b 2)
def B9g (a b:List UInt64):List UInt64:=V9 (V9 (V9 (V9 (Ns (E0 a 0) (E0 b 2)) (E0 a 1) (E0 b 1)) (E0 a 2) (E0 b 0)) (19*E0 a 3) (E0 b 4)) (19*E0 a 4) (E0 b 3)
def C0d (a b:List UInt64):List UInt64:=V9 (V9 (V9 (V9 (Ns (E0 a 0) (E0 b 3)) (E0 a 1) (E0 b 2)) (E0 a 2) (E0 b 1)) (E0 a 3) (E0 b 0)) (19*E0 a 4) (E0 b 4)
def B6w (a b:List UInt64):List UInt64:=V9 (V9 (V9 (V9 (Ns (E0 a 0) (E0 b 4)) (E0 a 1) (E0 b 3)) (E0 a 2) (E0 b 2)) (E0 a 3) (E0 b 1)) (E0 a 4) (E0 b 0)
def J9 (a b:List UInt64):List UInt64:=Po (B9q a b) (B8h a b) (B9g a b) (C0d a b) (B6w a b)
def D7w {Φ:Fcts} {S:World→Prop} (x y:UInt64):DC Tryz.prog Φ S:=dR 2 (B5q x y) rfl
def C8p {Φ:Fcts} {S:World→Prop} (p:List UInt64) (hp:p.length=2) (x y:UInt64):DC Tryz.prog Φ S:=dR 2 (C7n p hp x y) rfl
def D7g {Φ:Fcts} {S:World→Prop}:(p:List UInt64)→p.length=2→List (UInt64×UInt64)→List (DC Tryz.prog Φ S)
 | _,_,[]=>[]
 | p,hp,(x,y)::l=>C8p p hp x y::D7g (V9 p x y) rfl l
def A8e {Φ:Fcts} {S:World→Prop} (x y:UInt64) (l:List (UInt64×UInt64)):List (DC Tryz.prog Φ S):=D7w x y::D7g (Ns x y) rfl l
theorem O5 (a b:List UInt64) (ha:a.length=5) (hb:b.length=5) (w:World):Calls Tryz.prog 153 #[H7 a,H7 b] w fun e w'=>e=.returned (H7 (J9 a b))∧Below w.heap.size w w':=by
 revert a;refine B0l fun a0 a1 a2 a3 a4=>?_;revert b;refine B0l fun b0 b1 b2 b3 b4=>?_;let a:=[a0,a1,a2,a3,a4]
 let b:=[b0,b1,b2,b3,b4]
 let c:UInt64:=19
 exact E8 (g:=gE) 100 (avs a++avs b) ([Xj c a1,Xj c a2,Xj c a3,Xj c a4]++(A8e a0 b0 [(c*a1,b4),(c*a2,b3),(c*a3,b2),(c*a4,b1)]++(A8e a0 b1 [(a1,b0),(c*a2,b4),(c*a3,b3),(c*a4,b2)]++(A8e a0 b2 [(a1,b1),(a2,b0),(c*a3,b4),(c*a4,b3)] ++
  (A8e a0 b3 [(a1,b2),(a2,b1),(a3,b0),(c*a4,b4)]++(A8e a0 b4 [(a1,b3),(a2,b2),(a3,b1),(a4,b0)]++[dE5 (Vt (B9q a b) (B8h a b) (B9g a b) (C0d a b) (B6w a b) rfl rfl rfl rfl rfl)])))))) E7 Tryz.func153 (by kernel_rfl)
def C8z (a:List UInt64):List UInt64:=V9 (V9 (Ns (E0 a 0) (E0 a 0)) (2*E0 a 1) (19*E0 a 4)) (2*E0 a 2) (19*E0 a 3)
def C9c (a:List UInt64):List UInt64:=V9 (V9 (Ns (2*E0 a 0) (E0 a 1)) (2*E0 a 2) (19*E0 a 4)) (E0 a 3) (19*E0 a 3)
def C8m (a:List UInt64):List UInt64:=V9 (V9 (Ns (2*E0 a 0) (E0 a 2)) (E0 a 1) (E0 a 1)) (2*E0 a 3) (19*E0 a 4)
def D0k (a:List UInt64):List UInt64:=V9 (V9 (Ns (2*E0 a 0) (E0 a 3)) (2*E0 a 1) (E0 a 2)) (E0 a 4) (19*E0 a 4)
def C9x (a:List UInt64):List UInt64:=V9 (V9 (Ns (2*E0 a 0) (E0 a 4)) (2*E0 a 1) (E0 a 3)) (E0 a 2) (E0 a 2)
def fsq (a:List UInt64):List UInt64:=Po (C8z a) (C9c a) (C8m a) (D0k a) (C9x a)
@[simp, go_sem] theorem E0r (a : List UInt64) : (fsq a).length = 5 := rfl
set_option maxRecDepth 100000
theorem A0l (a:List UInt64) (ha:a.length=5) (w:World):Calls Tryz.prog 207 #[H7 a] w fun e w'=>e=.returned (H7 (fsq a))∧Below w.heap.size w w':=by
 revert a;refine B0l fun a0 a1 a2 a3 a4=>?_;let a:=[a0,a1,a2,a3,a4]
 let c:UInt64:=19
 let t:UInt64:=2
 exact E8 (g:=gE) 100 (avs a) ([Xj t a0,Xj t a1,Xj t a2,Xj c a3,Xj c a4]++(A8e a0 a0 [(t*a1,c*a4),(t*a2,c*a3)]++(A8e (t*a0) a1 [(t*a2,c*a4),(a3,c*a3)]++([D7w (t*a0) a2,C8p (Ns (t*a0) a2) rfl a1 a1,Xj t a3,C8p (V9 (Ns (t*a0) a2) a1 a1) rfl (t*a3) (c*a4)] ++
  (A8e (t*a0) a3 [(t*a1,a2),(a4,c*a4)]++(A8e (t*a0) a4 [(t*a1,a3),(a2,a2)]++[dE5 (Vt (C8z a) (C9c a) (C8m a) (D0k a) (C9x a) rfl rfl rfl rfl rfl)])))))) E7 Tryz.func207 (by kernel_rfl)
end
section
variable {w W : World} {l : List (TypeId × List Value)} {t : TypeId} {cs : List Value}
theorem KL' (i : Nat) (h : W = Z0 w l) (e : l[i]? = some (t, cs)) : Bk W (w.heap.size + i) t cs := h ▸ Xx _ w i _ _ e
theorem KZ' (h : W = Z0 w l) (e : l[0]? = some (t, cs)) : Bk W w.heap.size t cs := h ▸ Xx _ w 0 _ _ e
theorem BL' (h : W = Z0 w l) : Below w.heap.size w W := h ▸ Ls _ _
theorem ZL' (n : Nat) (h : W = Z0 w l) (e : l.length = n) : w.heap.size + n ≤ W.heap.size := by rw [h, Py, e]; exact Nat.le_refl _
theorem SL' (n : Nat) (h : W = Z0 w l) (e : l.length = n) : W.heap.size = w.heap.size + n := by rw [h, Py, e]
end
section
def E9w (a b:List UInt64) (j:Nat):UInt64:=E0 a j+E0 b j
def E3q (a b:List UInt64) (j:Nat):UInt64:=E0 a j+(9007199254740988-E0 b j)
def E1d (a b:List UInt64):List UInt64:=Jh (E9w a b) (E0 a) 5 5
def D9n (a b:List UInt64):List UInt64:=(Jh (E3q a b) (E0 a) 5 5).set 0 (E3q a b 0-72)
def Fj (a b:List UInt64):List UInt64:=Gv (E1d a b)
def Gh (a b:List UInt64):List UInt64:=Gv (D9n a b)
def Bm (v:UInt64):List UInt64:=[v &&& 2251799813685247,v >>> 51,0,0,0]
def Ef:Nat→List UInt64→List UInt64
 | 0,a=>a
 | n+1,a=>fsq (Ef n a)
@[simp, go_sem] theorem Za {a : List UInt64} (ha : a.length = 5) : ∀ n, (Ef n a).length = 5
 | 0=>ha
 | _+1=>rfl
set_option maxRecDepth 100000
theorem Dj (a b:List UInt64) (ha:a.length=5) (hb:b.length=5) (w:World):Calls Tryz.prog 186 #[H7 a,H7 b] w fun e w'=>e=.returned (H7 (Fj a b))∧Below w.heap.size w w':=by
 revert a;refine B0l fun a0 a1 a2 a3 a4=>?_;revert b;refine B0l fun b0 b1 b2 b3 b4=>?_;let a:=[a0,a1,a2,a3,a4]
 let b:=[b0,b1,b2,b3,b4]
 exact E8 (g:=gE) 100 (avs a++avs b) (((List.range 5).map fun i=>Zl (E0 a i) (E0 b i))++[dE5 (Ga (E1d a b) rfl)]) E7 Tryz.func186 (by kernel_rfl)
theorem Cb (a b:List UInt64) (ha:a.length=5) (hb:b.length=5) (w:World):Calls Tryz.prog 187 #[H7 a,H7 b] w fun e w'=>e=.returned (H7 (Gh a b))∧Below w.heap.size w w':=by
 revert a;refine B0l fun a0 a1 a2 a3 a4=>?_;revert b;refine B0l fun b0 b1 b2 b3 b4=>?_;let a:=[a0,a1,a2,a3,a4]
 let b:=[b0,b1,b2,b3,b4]
 let M:UInt64:=9007199254740988
 exact E8 (g:=gE) 100 (avs a++avs b) (((List.range 5).flatMap fun i=>[E3s M (E0 b i),Zl (E0 a i) (M-E0 b i)])++[E3s (a0+(M-b0)) 72,dE5 (Ga (D9n a b) rfl)]) E7 Tryz.func187 (by kernel_rfl)
theorem Hh (v:UInt64) (w:World):Calls Tryz.prog 183 #[.int .u64 (E6 v)] w fun e w'=>e=.returned (H7 (Bm v))∧Below w.heap.size w w':=E8 (g:=gE) 100 (avs [v]) [Et v 2251799813685247,Fb v .u64 51 (by decide)] E7 Tryz.func183 (by kernel_rfl)
theorem Pe (a:List UInt64) (ha:a.length=5) (n:Nat) (hn:n≤1000000) (w:World):Calls Tryz.prog 189 #[H7 a,.int .i64 (n:Int)] w fun e w'=>e=.returned (H7 (Ef n a))∧Below w.heap.size w w':=by
 obtain⟨W0,aA⟩:=D9 ((w.alloc (Obj.cells (E4 a).toArray 180)).alloc (Obj.cells (E4 (T9 5)).toArray 180));have hL:W0=Z0 w [(180,E4 a),(180,E4 (T9 5))]:=aA;have B0:=BL' hL;have A0:=KZ' hL rfl;have R0:=KL' 1 hL rfl;clear hL;go_enter Tryz.func189,Tryz.ntmps189;go_wp2_with fail;rw[←aA];clear aA;go_loopw [6] (fun t wr=>∃i:Nat,i≤n∧t=.int .i64 (i:Int)∧Bk wr w.heap.size 180 (E4 (Ef i a))∧Bk wr (w.heap.size+1) 180 (E4 (T9 5))∧Below w.heap.size w wr) (fun t _=>n-(intOf t).toNat)
 case atStart=>exact ⟨0,by omega,rfl,A0,R0,B0⟩
 case round=>
  clear A0 R0 B0;obtain⟨i,hi,rfl,K,R,B⟩:=hrel;have hl:=Za ha i;have rk:=K.row64 hl;by_cases hlt:i<n
  ·go_wp2_with fail;refine (A0l (Ef i a) hl wr).mono ?_;rintro e w1 ⟨rfl,b1⟩;have K1:=K.bl b1;have R1:=R.bl b1;have B1:=X4 B b1;have aB:F9 w1 ⟨w.heap.size,0,none⟩ 5=true:=K1.can (by simp[hl]);go_wp2_with fail;go_roundw;case rel=>exact ⟨i+1,by omega,by go_num,K1.puts (by simp[hl]),R1.putFar (by simp) _,C0 B1 (by simp) _⟩
   case measure=>simp[intOf];omega
  ·obtain rfl:i=n:=by omega
   have aB:=Nn 5 R (by simp);go_wp2_with fail;refine bodyPost_ret (C7 rfl _ _ _ _ _ _ rfl (R.puts (vs:=E4 (Ef i a)) (by simp[hl])) Xa rfl (by simp[A9o,hl])) rfl ⟨rfl,C0 B (by simp) _⟩
end
theorem Bk.row8 {w:World} {g:Nat} {t:TypeId} {l:List UInt8} {n:Nat} (h:Bk w g t (c8 l)) (hl:l.length=n):C4 w ⟨g,0,none⟩ n=some (c8 l):=by have:=h.rows;rwa [C1,hl]at this
def A7t (a:List UInt64):List UInt64:=J9 (Ef 2 (fsq a)) a
def Ju (a:List UInt64):List UInt64:=J9 (A7t a) (fsq a)
def f5 (a:List UInt64):List UInt64:=J9 (fsq (Ju a)) (A7t a)
def f10 (a:List UInt64):List UInt64:=J9 (Ef 5 (f5 a)) (f5 a)
def f20 (a:List UInt64):List UInt64:=J9 (Ef 10 (f10 a)) (f10 a)
def f50 (a:List UInt64):List UInt64:=J9 (Ef 10 (J9 (Ef 20 (f20 a)) (f20 a))) (f10 a)
def B0a (a:List UInt64):List UInt64:=J9 (Ef 50 (f50 a)) (f50 a)
def Vp (a:List UInt64):List UInt64:=J9 (Ef 50 (J9 (Ef 100 (B0a a)) (B0a a))) (f50 a)
def Zr (a:List UInt64):List UInt64:=J9 (Ef 5 (Vp a)) (Ju a)
section
def He (f:Nat→UInt8) (n i:Nat):List UInt8:=(List.range n).map fun j=>if j<i then f j else 0
@[simp, go_sem] theorem Fl (f : Nat → UInt8) (n i : Nat) : (He f n i).length = n := by simp [He]
theorem C0z {f:Nat→UInt8} {n i:Nat} (hi:i<n) {x:UInt8} (hx:x=f i):(He f n i).set i x=He f n (i+1):=by
 subst hx;apply List.ext_getElem?;intro j;unfold He;rw[List.getElem?_set];by_cases h:i=j
 ·subst h;rw[if_pos rfl,if_pos (by simpa using hi),List.getElem?_map,List.getElem?_range hi];simp
 ·rw[if_neg h,List.getElem?_map,List.getElem?_map];by_cases hj:j<n
  ·rw[List.getElem?_range hj];simp only[Option.map_some];have:(j<i+1)↔(j<i):=by omega
   simp[this]
  ·rw[List.getElem?_eq_none (by simpa using hj)];rfl
theorem A7b {f:Nat→UInt8} {n:Nat}:He f n 0=z8 n:=by
 apply List.ext_getElem?;intro j;unfold He z8;rw[List.getElem?_map,List.getElem?_replicate];by_cases hj:j<n
 ·rw[List.getElem?_range hj,if_pos hj];rfl
 ·rw[List.getElem?_eq_none (by simpa using hj),if_neg hj];rfl
def C3a (ws:List UInt64) (j:Nat):UInt8:=(E0 ws (j / 8) >>> UInt64.ofNat (8*(j % 8))).toUInt8
def A0g (ws:List UInt64) (n:Nat):List UInt8:=He (C3a ws) n n
@[simp, go_sem] theorem Pm (ws : List UInt64) (n : Nat) : (A0g ws n).length = n := Fl _ _ _
def hq (b:List UInt64):Nat→UInt64
 | 0=>(E0 b 0+19) >>> (51:UInt64)
 | i+1=>(E0 b (i+1)+hq b i) >>> (51:UInt64)
def hs (b:List UInt64):Nat→List UInt64
 | 0=>b.set 0 (E0 b 0+19*hq b 4)
 | i+1=>((hs b i).set (i+1) (E0 (hs b i) (i+1)+E0 (hs b i) i >>> (51:UInt64))).set i (E0 (hs b i) i &&& (2251799813685247:UInt64))
def E3g (b:List UInt64):List UInt64:=(hs b 4).set 4 (E0 (hs b 4) 4 &&& (2251799813685247:UInt64))
def D0n (c:List UInt64):List UInt64:=[E0 c 0 ||| E0 c 1 <<< (51:UInt64),E0 c 1 >>> (13:UInt64) ||| E0 c 2 <<< (38:UInt64),E0 c 2 >>> (26:UInt64) ||| E0 c 3 <<< (25:UInt64),E0 c 3 >>> (39:UInt64) ||| E0 c 4 <<< (12:UInt64)]
def Q0 (a:List UInt64):List UInt8:=A0g (D0n (E3g (Gv (Gv a)))) 32
@[simp, go_sem] theorem Af (a : List UInt64) : (Q0 a).length = 32 := Pm _ _
theorem D9b (w x y z:UInt64):A0g [w,x,y,z] 32=[w,x,y,z].flatMap fun x=>(List.range 8).map fun s=>(x >>> UInt64.ofNat (s*8)).toUInt8:=rfl
set_option maxRecDepth 100000
set_option maxHeartbeats 2000000
theorem Hg (a:List UInt64) (ha:a.length=5) (w:World):Calls Tryz.prog 154 #[H7 a] w fun e w'=>e=.returned (A8 (Q0 a))∧Below w.heap.size w w':=by
 obtain⟨b,hb⟩:=D9 (Gv a);obtain⟨c,hc⟩:=D9 (Gv b);have k1:∀W,Calls Tryz.prog 193 #[H7 a] W fun e w'=>e=.returned (H7 b)∧Below W.heap.size W w':=by rw[hb];exact Ga a ha
 have h1:b.length=5:=by rw[hb];rfl
 have k2:∀W,Calls Tryz.prog 193 #[H7 b] W fun e w'=>e=.returned (H7 c)∧Below W.heap.size W w':=by rw[hc];exact Ga b h1
 have h2:c.length=5:=by rw[hc];rfl
 unfold Q0;rw[←hb,←hc];clear hb hc;obtain⟨a0,a1,a2,a3,a4,rfl⟩:=ex5 a ha;obtain⟨b0,b1,b2,b3,b4,rfl⟩:=ex5 b h1;obtain⟨c0,c1,c2,c3,c4,rfl⟩:=ex5 c h2;let L:UInt64:=2251799813685247
 let q0:=(c0+19) >>> 51
 let q1:=(c1+q0) >>> 51
 let q2:=(c2+q1) >>> 51
 let q3:=(c3+q2) >>> 51
 let q4:=(c4+q3) >>> 51
 let d0:=c0+19*q4
 let d1:=c1+d0 >>> 51
 let d2:=c2+d1 >>> 51
 let d3:=c3+d2 >>> 51
 let d4:=c4+d3 >>> 51
 have hw:D0n (E3g [c0,c1,c2,c3,c4])=[d0 &&& L ||| (d1 &&& L) <<< 51,(d1 &&& L) >>> 13 ||| (d2 &&& L) <<< 38,(d2 &&& L) >>> 26 ||| (d3 &&& L) <<< 25,(d3 &&& L) >>> 39 ||| (d4 &&& L) <<< 12]:=rfl;rw[hw,D9b];exact E8 (g:=gE) 100 (avs [a0,a1,a2,a3,a4]) ([dE5 k1,dE5 k2]++([(c0,19),(c1,q0),(c2,q1),(c3,q2),(c4,q3)].flatMap fun (x:UInt64×UInt64)=>[Zl x.1 x.2,Fb (x.1+x.2) .u64 51 (by decide)])++[Xj 19 q4,Zl c0 (19*q4)] ++
  ([(d0,c1),(d1,c2),(d2,c3),(d3,c4)].flatMap fun (x:UInt64×UInt64)=>[Fb x.1 .u64 51 (by decide),Zl x.2 (x.1 >>> 51),Et x.1 L])++[Et d4 L] ++
  [Ph (d1 &&& L) .u64 51 (by decide),Zh (d0 &&& L) ((d1 &&& L) <<< 51),Fb (d1 &&& L) .u64 13 (by decide),Ph (d2 &&& L) .u64 38 (by decide),Zh ((d1 &&& L) >>> 13) ((d2 &&& L) <<< 38),Fb (d2 &&& L) .u64 26 (by decide),Ph (d3 &&& L) .u64 25 (by decide),Zh ((d2 &&& L) >>> 26) ((d3 &&& L) <<< 25),Fb (d3 &&& L) .u64 39 (by decide),Ph (d4 &&& L) .u64 12 (by decide),Zh ((d3 &&& L) >>> 39) ((d4 &&& L) <<< 12)] ++
  [d0 &&& L ||| (d1 &&& L) <<< 51,(d1 &&& L) >>> 13 ||| (d2 &&& L) <<< 38,(d2 &&& L) >>> 26 ||| (d3 &&& L) <<< 25,(d3 &&& L) >>> 39 ||| (d4 &&& L) <<< 12].flatMap fun x=>(List.range 8).flatMap fun s=>[Fb x .u64 (s % 8*8) (by omega),F0j (x >>> UInt64.ofNat (s*8))]) E7 Tryz.func154 (by kernel_rfl)
def A4s (a:List UInt64):Bool:=g8 (Q0 a) 0 &&& 1==1
theorem Lj (a:List UInt64) (ha:a.length=5) (w:World):Calls Tryz.prog 155 #[H7 a] w fun e w'=>e=.returned (.bool (A4s a))∧Below w.heap.size w w':=by
 have k:=Hg a ha;have hl:=Af a;unfold A4s;obtain⟨h,hh⟩:=D9 (Q0 a);rw[←hh]at k hl ⊢;clear hh;obtain⟨a0,a1,a2,a3,a4,rfl⟩:=ex5 a ha;exact E8 (g:=D8z) 100 (avs [a0,a1,a2,a3,a4]) [E4q k hl,C4o (g8 h 0) 1,D6o (g8 h 0 &&& 1) 1 rfl] E7 Tryz.func155 (by kernel_rfl)
end
section
def wl (b:List UInt8) (n:Nat):Nat→List UInt64
 | 0=>T9 n
 | i+1=>(wl b n i).set (i / 8) (E0 (wl b n i) (i / 8) ||| (g8 b i).toUInt64 <<< UInt64.ofNat (8*(i % 8)))
@[simp] theorem C4h (b : List UInt8) (n : Nat) : ∀ i, (wl b n i).length = n
 | 0=>by simp[wl]
 | i+1=>by simp[wl,C4h b n i]
def B7y (ws:List UInt64):List UInt64:=[E0 ws 0 &&& (2251799813685247:UInt64),(E0 ws 0 >>> (51:UInt64) ||| E0 ws 1 <<< (13:UInt64)) &&& (2251799813685247:UInt64),(E0 ws 1 >>> (38:UInt64) ||| E0 ws 2 <<< (26:UInt64)) &&& (2251799813685247:UInt64),(E0 ws 2 >>> (25:UInt64) ||| E0 ws 3 <<< (39:UInt64)) &&& (2251799813685247:UInt64),E0 ws 3 >>> (12:UInt64) &&& (2251799813685247:UInt64)]
@[simp, go_sem] theorem B2h (ws : List UInt64) : (B7y ws).length = 5 := rfl
def Sw (b:List UInt8):Bool:=!((E0 (wl b 4 32) 3 >>> (63:UInt64) != 0)||(Q0 (B7y (wl b 4 32)) != b))
def U8 (b:List UInt8):List UInt64:=if Sw b then B7y (wl b 4 32) else T9 5
theorem F0 (b:List UInt8):(U8 b).length=5:=by unfold U8;split<;>simp
def Vy:List UInt64:=[1718705420411056,234908883556509,2233514472574048,2117202627021982,765476049583133]
set_option maxRecDepth 100000
theorem B0s (w:World):Calls Tryz.prog 211 #[] w fun e w'=>e=.returned (H7 Vy)∧Below w.heap.size w w':=E8 (g:=gE) 100 [] [] E7 Tryz.func211 (by kernel_rfl)
def E9k (f:Nat→UInt8) (k:Nat) (a:UInt64) (s:Nat):UInt64:=a ||| (f (8*k+s)).toUInt64 <<< UInt64.ofNat (8*s)
def w8 (f:Nat→UInt8) (k:Nat):UInt64:=(List.range 8).foldl (E9k f k) 0
def wIt {w:World} (f:Nat→UInt8) (k:Nat):UInt64→List Nat→DL w
 | _,[]=>[]
 | a,s::l=>E3l (f (8*k+s))::(Ph (f (8*k+s)).toUInt64 .u64 (8*(s % 8)) (by omega)::(Zh a ((f (8*k+s)).toUInt64 <<< UInt64.ofNat (8*s))::wIt f k (a ||| (f (8*k+s)).toUInt64 <<< UInt64.ofNat (8*s)) l))
theorem F0f (f:Nat→UInt8):wl ((List.range 32).map f) 4 32=[w8 f 0,w8 f 1,w8 f 2,w8 f 3]:=by kernel_rfl
theorem E5l (w x y z:UInt64):B7y [w,x,y,z]=[w &&& 2251799813685247,(w >>> 51 ||| x <<< 13) &&& 2251799813685247,(x >>> 38 ||| y <<< 26) &&& 2251799813685247,(y >>> 25 ||| z <<< 39) &&& 2251799813685247,z >>> 12 &&& 2251799813685247]:=rfl
theorem B4j (b:List UInt8) (hb:b.length=32) (w:World):Calls Tryz.prog 184 #[A8 b] w fun e w'=>e=.returned (.tuple #[H7 (U8 b),.bool (Sw b)])∧Below w.heap.size w w':=by
 have hm:=A8v hb;have hw:=F0f (g8 b);rw[show (List.range 32).map (g8 b)=b from hm]at hw;have k:=Hg (B7y (wl b 4 32)) (B2h _);have hl:=Af (B7y (wl b 4 32));unfold U8 Sw;obtain⟨h,hh⟩:=D9 (Q0 (B7y (wl b 4 32)));rw[←hh]at k hl ⊢;clear hh;rw[hw,E5l]at k ⊢;clear hw;let x:=w8 (g8 b)
 let L:UInt64:=2251799813685247
 let D:DL w:=((List.range 4).flatMap fun k=>wIt (g8 b) k 0 (List.range 8)) ++
  [Et (x 0) L,Fb (x 0) .u64 51 (by decide),Ph (x 1) .u64 13 (by decide),Zh (x 0 >>> 51) (x 1 <<< 13),Et (x 0 >>> 51 ||| x 1 <<< 13) L,Fb (x 1) .u64 38 (by decide),Ph (x 2) .u64 26 (by decide),Zh (x 1 >>> 38) (x 2 <<< 26),Et (x 1 >>> 38 ||| x 2 <<< 26) L,
   Fb (x 2) .u64 25 (by decide),Ph (x 3) .u64 39 (by decide),Zh (x 2 >>> 25) (x 3 <<< 39),Et (x 2 >>> 25 ||| x 3 <<< 39) L,Fb (x 3) .u64 12 (by decide),Et (x 3 >>> 12) L,Fb (x 3) .u64 63 (by decide)]
 obtain⟨b1,e1⟩:∃b1,(x 3 >>> (63:UInt64) != 0)=b1:=⟨_,rfl⟩;obtain⟨b2,e2⟩:∃b2,(h != b)=b2:=⟨_,rfl⟩;rw[show E0 [w8 (g8 b) 0,w8 (g8 b) 1,w8 (g8 b) 2,w8 (g8 b) 3] 3=x 3 from rfl,e1,e2,show A8 b=A8 (m32 b) by rw[hm]];cases b1 with
 | true=>exact E8 (g:=D8z) 200 (avm b) (D++[D8j (x 3 >>> 63) 0 e1]) E7 Tryz.func184 (by kernel_rfl)
 | false=>cases b2<;>exact E8 (g:=D8z) 200 (avm b) (D++[D8j (x 3 >>> 63) 0 e1,E4q k hl,E6j h b hl hb e2]) E7 Tryz.func184 (by kernel_rfl)
end
end Go.Proofs.YtmllnpokbbabhaaGreat
