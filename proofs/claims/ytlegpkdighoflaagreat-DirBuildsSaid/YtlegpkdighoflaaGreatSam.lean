/- A part of the proof of DirBuilds. -/
import Derived.Test.YtlegpkdighoflaaGreatSak
import Derived.Test.YtlegpkdighoflaaGreatSag
import Derived.Test.YtlegpkdighoflaaGreatSal
set_option linter.unusedVariables false
set_option linter.unusedSimpArgs false
set_option maxRecDepth 100000
set_option maxHeartbeats 40000000
namespace Go.Proofs.YtlegpkdighoflaaGreat
open Go Go.RowKit Sh
section
def Fh (P:Program) (s:St):ResultVar→Option (Bool×List Sg)
 | .tmp t=>match s.σ[t]? with
  | some (.v a l)=>some (a,l)
  | _=>none
 | .cell t T=>do
  let (b,f) ←(s.σ[t]?).bind Jq
  let (_,cs) ←s.blk b
  let n ←Kd P T
  let a ←Uw P T
  let l ←Wi cs f n
  if (!a&&l.length != 1)||n==0||(!a&&n != 1) then none else some (a,l)
def D3g (P:Program) (s:St):List ResultVar→Option SV
 | []=>some (.tup [])
 | [r]=>(Fh P s r).map fun x=>.v x.1 x.2
 | [r1,r2]=>do let x ←Fh P s r1;let y ←Fh P s r2;some (.tup [x,y])
 | [r1,r2,r3]=>do let x ←Fh P s r1;let y ←Fh P s r2;let z ←Fh P s r3;some (.tup [x,y,z])
 | _=>none
def Tv (σ:List SV) (n:Nat):St:=⟨σ++List.replicate (n-σ.length) (.v false [.c undef]),[],[]⟩
def nm0:Nat→Nm:=fun _=>⟨0,jnk,rfl⟩
def Dep.post (ρ:List Av) (Φ:Fcts) (d:Dep) (lo:Nat) (μ:Nat→Nm) (W:World):Prop:=
 d.bs.foldr (fun x p=>(Bk W (μ x.1).b x.2.1 (cellsL ρ μ x.2.2)∧lo≤(μ x.1).b)∧p) (d.ds.foldr (fun n p=>Φ.at n μ W∧p) True)
def C6n (w w' W:World):Prop:=w'.heap.size≤W.heap.size∧∀k,w.heap.size≤k→k<w'.heap.size→W.heap[k]?=w'.heap[k]?
def D8l (P:Program) (g:Cfg) (fuel:Nat) (fn:Func) (ρ:List Av):Option (Array Value×List Eqn×((Nat→Nm)→Value)×(Nat→(Nat→Nm)→World→Prop)×Bool):=
 match fn.body,Pa P g 0 fn.params.toList with
 | some c,some (ps,na)=>match A6o P g ρ fuel c (Tv (ps.map fun x=>.v x.1 x.2) fn.ntmps) na with
  | some (.ext _,_,_,_)=>none
  | some (_,s',_,qs)=>match D3g P s' fn.results.toList with
   | some r=>some ((ps.map fun x=>cv ρ nm0 x.1 x.2).toArray,qs.map (Rq.eqn ρ g.f),fun μ=>r.val ρ μ,fun lo μ W=>(Jv s' g.f.sup [r]).post ρ g.f lo μ W,(Jv s' g.f.sup [r]).ds.isEmpty)
   | none=>none
  | none=>none
 | _,_=>none
def E3p (tmps:Array Value):ResultVar→Sem Value
 | .tmp t=>pure (tmps.getD t undef)
 | .cell b t=>do loadVar t (←asAddr (tmps.getD b undef))
section
variable {P : Program} {g : Cfg} {ρ : List Av}
theorem B5o (fn:Func) (tmps:Array Value):results fn tmps=(do let vs ←fn.results.mapM (E3p tmps);pure (if h:vs.size=1 then vs[0] else .tuple vs)):=by
 unfold results;congr 1
theorem B0r {x:SV} {b o:Nat} (h:Jq x=some (b,o)):x.known=true:=by
 cases x with
 | v a l=>rfl
 | tup l=>rfl
 | any=>cases h
theorem Gz {s:St} {μ:Nat→Nm} {Φ:Fcts} {S:World→Prop} {a:Act} {w:World} {r:ResultVar} {x:Bool×List Sg} (hR:Rel ρ Φ S s μ a w) (h:Fh P s r=some x) :
 (E3p a.tmps r).run P w=.ok (cv ρ μ x.1 x.2) w:=by
 cases r with
 | tmp t=>
  simp only[Fh]at h;split at h
  ·rename_i ag l hx
   cases h;have:=hR.tm t _ hx rfl;show Result.ok (a.tmps.getD t undef) w=_;rw[this];rfl
  ·cases h
 | cell t T=>
  simp only[Fh,bind,Option.bind]at h;cases hx:s.σ[t]? with
  | none=>rw[hx]at h;cases h
  | some y=>
   rw[hx]at h;simp only at h;cases hp:Jq y with
   | none=>rw[hp]at h;cases h
   | some bf=>
    obtain⟨b,f⟩:=bf;rw[hp]at h;simp only at h;cases hb:s.blk b with
    | none=>rw[hb]at h;cases h
    | some Tc=>
     obtain⟨T',cs⟩:=Tc;rw[hb]at h;simp only at h;cases hs:Kd P T with
     | none=>rw[hs]at h;cases h
     | some n=>
      rw[hs]at h;simp only at h;cases ha:Uw P T with
      | none=>rw[ha]at h;cases h
      | some ag=>
       rw[ha]at h;simp only at h;cases hc:Wi cs f n with
       | none=>rw[hc]at h;cases h
       | some l=>
        rw[hc]at h;simp only at h;split at h
        ·cases h
        ·rename_i hcond
         cases h;have h1:=A4b (P:=P) (w:=w) (t:=T) (hR.bl b T' cs hb) hs ha hc (by intro h0;subst h0;simp at hcond) (by intro h0;subst h0;simp at hcond;exact ⟨hcond.1.1,hcond.2⟩);have h2:=hR.tm t _ hx (B0r hp);rw[Iw hp]at h2;show (do loadVar T (←asAddr (a.tmps.getD t undef)):Sem Value).run P w=_;rw[h2];exact h1
theorem C3m {fn:Func} {s:St} {μ:Nat→Nm} {Φ:Fcts} {S:World→Prop} {a:Act} {w:World} {r:SV} (hR:Rel ρ Φ S s μ a w) (h:D3g P s fn.results.toList=some r):(results fn a.tmps).run P w=.ok (r.val ρ μ) w:=by
 have hl:fn.results=fn.results.toList.toArray:=by simp
 generalize fn.results.toList=rs at h hl;rw[B5o,hl];unfold D3g at h;split at h
 ·cases h;simp[SV.val]
 ·rename_i r1
  cases h1:Fh P s r1 with
  | none=>rw[h1]at h;cases h
  | some x=>
   rw[h1]at h;cases h;simp[Gz hR h1,SV.val]
 ·rename_i r1 r2
  simp only[bind,Option.bind]at h;cases h1:Fh P s r1 with
  | none=>rw[h1]at h;cases h
  | some x=>
   rw[h1]at h;simp only at h;cases h2:Fh P s r2 with
   | none=>rw[h2]at h;cases h
   | some y=>
    rw[h2]at h;cases h;simp[Gz hR h1,Gz hR h2,SV.val]
 ·rename_i r1 r2 r3
  simp only[bind,Option.bind]at h;cases h1:Fh P s r1 with
  | none=>rw[h1]at h;cases h
  | some x=>
   rw[h1]at h;simp only at h;cases h2:Fh P s r2 with
   | none=>rw[h2]at h;cases h
   | some y=>
    rw[h2]at h;simp only at h;cases h3:Fh P s r3 with
    | none=>rw[h3]at h;cases h
    | some z=>
     rw[h3]at h;cases h;simp[Gz hR h1,Gz hR h2,Gz hR h3,SV.val]
 ·cases h
theorem C1b {Φ:Fcts} {xs:List (Bool×List Sg)} {n:Nat} (hn:(xs.all fun y=>y.2.all (·.okn fun _=>false))=true) (w:World) :
 Rel ρ Φ (fun W=>Below w.heap.size w W) (Tv (xs.map fun x=>.v x.1 x.2) n) nm0 { tmps:=(xs.map fun x=>cv ρ nm0 x.1 x.2).toArray++Array.replicate (n-(xs.map fun x=>cv ρ nm0 x.1 x.2).toArray.size) undef,defers:=[] } w:=by
 have aA:∀b,(Tv (xs.map fun x=>SV.v x.1 x.2) n).blk b=none:=fun b=>rfl;have hσ:∀(t:Nat) x,(Tv (xs.map fun x=>SV.v x.1 x.2) n).σ[t]?=some x→(∃y,xs[t]?=some y∧x=.v y.1 y.2)∨(xs.length≤t∧t<xs.length+(n-xs.length)∧x=.v false [.c undef]):=by
  intro t x hx;simp only[Tv]at hx;rcases Nat.lt_or_ge t xs.length with h | h
  ·rw[List.getElem?_append_left (by simpa using h)]at hx;simp only[List.getElem?_map,Option.map_eq_some_iff]at hx;obtain⟨y,h1,h2⟩:=hx;exact .inl ⟨y,h1,h2.symm⟩
  ·rw[List.getElem?_append_right (by simpa using h)]at hx;have h1:=(List.getElem?_eq_some_iff.1 hx);obtain⟨h2,h3⟩:=h1;simp only[List.length_map,List.length_replicate]at h2;exact .inr ⟨h,by omega,by rw[←h3];simp⟩
 refine ⟨by simp[Tv],rfl,fun t x hx _=>?_,fun b T cs hb=>(by rw[aA]at hb;cases hb),fun b b' hb=>(by rw[aA]at hb;cases hb),fun t x hx=>?_,fun b T cs hb=>(by rw[aA]at hb;cases hb),fun n hn=>(by cases hn),fun n hn=>(by cases hn),fun W hW=>⟨hW.os,hW.tape,hW.output,hW.size,fun k hk=>hW.block k hk fun b hb=>(by rw[aA]at hb;cases hb)⟩⟩
 ·rcases hσ t x hx with ⟨y,h1,rfl⟩ | ⟨h1,h2,rfl⟩
  ·have h3:=(List.getElem?_eq_some_iff.1 h1).1;simp only[Array.getD_eq_getD_getElem?];rw[Array.getElem?_append_left (by simpa using h3)];simp[h1,SV.val]
  ·simp only[Array.getD_eq_getD_getElem?];rw[Array.getElem?_append_right (by simpa using h1)];simp;rw[Array.getElem?_replicate];split<;>rfl
 ·rcases hσ t x hx with ⟨y,h1,rfl⟩ | ⟨h1,h2,rfl⟩
  ·have h3:=List.all_eq_true.1 hn y (List.mem_of_getElem? h1);exact Oo (fun b hb=>by cases hb) h3
  ·rfl
theorem C8c {Φ:Fcts} {d:Dep} {lo:Nat} {μ:Nat→Nm} {w:World} (hB:∀x∈d.bs,Bk w (μ x.1).b x.2.1 (cellsL ρ μ x.2.2)∧lo≤(μ x.1).b) (hD:∀n∈d.ds,Φ.at n μ w):d.post ρ Φ lo μ w:=by
 unfold Dep.post;have h1:∀l:List Nat,(∀n∈l,Φ.at n μ w)→l.foldr (fun n p=>Φ.at n μ w∧p) True:=by
  intro l;induction l with
  | nil=>intro _;trivial
  | cons n l ih=>intro h;exact ⟨h n (by simp),ih fun m hm=>h m (by simp[hm])⟩
 have h2:∀(l:List (Nat×TypeId×List Sg)) (p:Prop),p→(∀x∈l,Bk w (μ x.1).b x.2.1 (cellsL ρ μ x.2.2)∧lo≤(μ x.1).b)→l.foldr (fun x p=>(Bk w (μ x.1).b x.2.1 (cellsL ρ μ x.2.2)∧lo≤(μ x.1).b)∧p) p:=by
  intro l p hp;induction l with
  | nil=>intro _;exact hp
  | cons x l ih=>intro h;exact ⟨h x (by simp),ih fun y hy=>h y (by simp[hy])⟩
 exact h2 _ _ (h1 _ hD) hB
theorem B4p {f fuel:Nat} {fn:Func} {args:Array Value} {es:List Eqn} {v:(Nat→Nm)→Value} {q:Nat→(Nat→Nm)→World→Prop} {nf:Bool} (hm:P.follows .mixedOrders=true) (hf:P.funcs[f]?=some fn) (h:D8l P g fuel fn ρ=some (args,es,v,q,nf)) (w:World)
 (hes:∀e∈es,e.Ok P g.f (fun W=>Below w.heap.size w W)) :
 Calls P f args w fun e w'=>∃μ,e=.returned (v μ)∧Below w.heap.size w w'∧∀W,C6n w w' W→(nf=true∨Below w.heap.size w W)→q w.heap.size μ W:=by
 unfold D8l at h;split at h
 ·rename_i c ps na hb hps
  have aE:=A0v hps (fun _=>false);have aF:∀(k:XK) (s':St) (aC:Nat) (qs:List Rq),A6o P g ρ fuel c (Tv (ps.map fun x=>.v x.1 x.2) fn.ntmps) na=some (k,s',aC,qs)→(k=.nrm∨k=.ret)→
   (match D3g P s' fn.results.toList with
   | some r=>some ((ps.map fun x=>cv ρ nm0 x.1 x.2).toArray,qs.map (Rq.eqn ρ g.f),(fun μ=>r.val ρ μ),fun lo μ W=>(Jv s' g.f.sup [r]).post ρ g.f lo μ W,(Jv s' g.f.sup [r]).ds.isEmpty)
   | none=>none)=some (args,es,v,q,nf)→Calls P f args w fun e w'=>∃μ,e=.returned (v μ)∧Below w.heap.size w w'∧∀W,C6n w w' W→(nf=true∨Below w.heap.size w W)→q w.heap.size μ W:=by
   intro k s' aC qs aA hk aB;split at aB
   ·rename_i r hr
    cases aB;refine calls_of_wp hf hb ?_;refine Ec hm fuel c _ na _ aA (fun q hq=>hes _ (List.mem_map_of_mem hq)) nm0 _ w _ (C1b aE w) fun μ' a' w' hR hG=>?_;have h1:=C3m (fn:=fn) hR hr;have h3:Below w.heap.size w w':=⟨hG.kp.os,hG.kp.tape,hG.kp.output,hG.kp.size,fun k hk=>hG.kp.block k hk fun b hb=>by cases hb⟩;have h4:∀W,C6n w w' W→((Jv s' g.f.sup [r]).ds.isEmpty=true∨Below w.heap.size w W)→(Jv s' g.f.sup [r]).post ρ g.f w.heap.size μ' W:=by
     intro W hW aG;refine C8c (fun x hx=>?_) fun n hn=>?_
     ·obtain⟨n,hn,aD⟩:=List.mem_filterMap.1 hx;cases hbk:s'.blk n with
      | none=>rw[hbk]at aD;cases aD
      | some u=>
       rw[hbk]at aD;cases aD;have h5:=hR.bl n u.1 u.2 hbk;have h6:=hG.new n (by rw[hbk];rfl) (Nat.zero_le _);exact ⟨(hW.2 _ h6 h5.lt).trans h5,h6⟩
     ·have hb:Below w.heap.size w W:=by
       rcases aG with h | h
       ·rw[List.isEmpty_iff.1 h]at hn;cases hn
       ·exact h
      have aH:n∈s'.dy:=by simpa using (List.mem_filter.1 hn).2
      obtain⟨lo,hi,h6,h7,_,h8⟩:=hR.fx n aH;have h9:=h6 w.heap.size fun W hW=>hW.size;exact h8 W hW.1 (fun k hlo hhi=>hW.2 k (by omega) (by omega)) hb
    rcases hk with rfl | rfl
    ·exact ⟨hR.df,_,h1,μ',rfl,h3,h4⟩
    ·exact ⟨hR.df,_,h1,μ',rfl,h3,h4⟩
   ·cases aB
  split at h
  ·cases h
  ·rename_i k s' aC qs hne aA
   refine aF k s' aC qs aA ?_ h;cases k with
   | nrm=>exact .inl rfl
   | ext id=>exact (hne id rfl).elim
   | ret=>exact .inr rfl
  ·cases h
 ·cases h
end
structure DC (P : Program) (Φ : Fcts) (S : World → Prop) where
 e:Eqn
 ok:e.Ok P Φ S
 res:List Av
def noF:Fcts:=⟨fun _=>[],fun _ _ _=>True⟩
theorem T3 {P:Program} {g:Cfg} {f:Nat} {fn:Func} {args:Array Value} {v:Value} (fuel:Nat) (ρ0:List Av) {w:World} (ds:List (DC P g.f (fun W=>Below w.heap.size w W))) (hm:P.follows .mixedOrders=true) (hf:P.funcs[f]?=some fn)
 (h:D8l P g fuel fn (ρ0++ds.flatMap (·.res))=some (args,ds.map (·.e),(fun _=>v),(fun _ _ _=>True),true)):Calls P f args w fun e w'=>e=.returned v∧Below w.heap.size w w':=
 (B4p hm hf h w fun e he=>by obtain⟨d,_,rfl⟩:=List.mem_map.1 he;exact d.ok).mono fun e w' ⟨_,h1,h2,_⟩=>⟨h1,h2⟩
end
section
def Gl (l:List UInt64) (k:Nat) (h:l.length=k):Av:=⟨C7 l,k,by simp[h],fun v hv=>by
 have:=B6q l;rw[Array.all_eq_true_iff_forall_mem]at this;exact this v (by simpa using hv)⟩
def av8 (l:List UInt8) (k:Nat) (h:l.length=k):Av:=⟨c8 l,k,by simp[h],fun v hv=>by
 have:=C4z l;rw[Array.all_eq_true_iff_forall_mem]at this;exact this v (by simpa using hv)⟩
def av1 (v:Value) (h:v.oneCell'=true):Av:=⟨[v],1,rfl,fun u hu=>by rw[List.mem_singleton.1 hu];exact h⟩
section
variable {f : FuncId} {args : Array Value} {Φ : Fcts} {S : World → Prop}
def dE {l:List UInt64} (h:∀W,Calls Tryz.prog f args W fun e W'=>e=.returned (J7 l)∧Below W.heap.size W W') (hl:l.length=5):DC Tryz.prog Φ S:=⟨.call f (fun _=>args) (fun _=>(J7 l)) none (fun _ _=>True),fun _ W _ _=>h W,[Gl l 5 hl]⟩
def dR {l:List UInt64} (k:Nat) (h:∀W,Calls Tryz.prog f args W fun e W'=>e=.returned (J7 l)∧Below W.heap.size W W') (hl:l.length=k):DC Tryz.prog Φ S:=⟨.call f (fun _=>args) (fun _=>(J7 l)) none (fun _ _=>True),fun _ W _ _=>h W,[Gl l k hl]⟩
def dV {v:Value} (h:∀W,Calls Tryz.prog f args W fun e W'=>e=.returned v∧Below W.heap.size W W') (hv:v.oneCell'=true):DC Tryz.prog Φ S:=⟨.call f (fun _=>args) (fun _=>v) none (fun _ _=>True),fun _ W _ _=>h W,[av1 v hv]⟩
def dH {l:List UInt8} (h:∀W,Calls Tryz.prog f args W fun e W'=>e=.returned (A8 l)∧Below W.heap.size W W') (hl:l.length=32):DC Tryz.prog Φ S:=⟨.call f (fun _=>args) (fun _=>(A8 l)) none (fun _ _=>True),fun _ W _ _=>h W,[av8 l 32 hl]⟩
def dB {b:Bool} (h:∀W,Calls Tryz.prog f args W fun e W'=>e=.returned (.bool b)∧Below W.heap.size W W'):DC Tryz.prog Φ S:=⟨.call f (fun _=>args) (fun _=>(.bool b)) none (fun _ _=>True),fun _ W _ _=>h W,[av1 (.bool b) rfl]⟩
def dEB {l:List UInt64} {b:Bool} (h:∀W,Calls Tryz.prog f args W fun e W'=>e=.returned (.tuple #[J7 l,.bool b])∧Below W.heap.size W W') (hl:l.length=5):DC Tryz.prog Φ S:=⟨.call f (fun _=>args) (fun _=>(.tuple #[J7 l,.bool b])) none (fun _ _=>True),fun _ W _ _=>h W,[Gl l 5 hl,av1 (.bool b) rfl]⟩
def dEE {l m:List UInt64} (h:∀W,Calls Tryz.prog f args W fun e W'=>e=.returned (.tuple #[J7 l,J7 m])∧Below W.heap.size W W') (hl:l.length=5) (hm:m.length=5):DC Tryz.prog Φ S:=⟨.call f (fun _=>args) (fun _=>(.tuple #[J7 l,J7 m])) none (fun _ _=>True),fun _ W _ _=>h W,[Gl l 5 hl,Gl m 5 hm]⟩
end
theorem Af:Tryz.prog.follows .mixedOrders=true:=by kernel_rfl
abbrev DC1 (w : World) := DC Tryz.prog noF (fun W => Below w.heap.size w W)
abbrev DL (w : World) := List (DC1 w)
def B9l {Φ:Fcts} {S:World→Prop} {op:BinOp} {t:TypeId} {x y v:Value} (h:∀(X Y:Operand) W,(do eqGuard op t X Y x y;binOp op t x y:Sem Value).run Tryz.prog W=.ok v W) (ho:v.oneCell'=true):DC Tryz.prog Φ S:=
 ⟨.bin op t (fun _=>x) (fun _=>y) (fun _=>v) (fun _ _=>True),fun _ X Y W _ _=>h X Y W,[av1 v ho]⟩
def C6o {Φ:Fcts} {S:World→Prop} {op:BinOp} {x y v:Value} (h:∀W,(binOp op 117 x y).run Tryz.prog W=.ok v W) (hg:∀(X Y:Operand) W,(eqGuard op 117 X Y x y).run Tryz.prog W=.ok () W) (ho:v.oneCell'=true):DC Tryz.prog Φ S:=
 B9l (op:=op) (t:=117) (x:=x) (y:=y) (v:=v) (fun X Y W=>by simp only[Sem.run_bind,hg X Y W,Result.andThen_ok,h W]) ho
abbrev w64 (x : UInt64) : Value := .int .u64 (J0 x)
def A6b {Φ:Fcts} {S:World→Prop} (x y:UInt64):DC Tryz.prog Φ S:=C6o (op:=.add) (x:=w64 x) (y:=w64 y) (v:=w64 (x+y)) (fun W=>by rw[show binOp .add 117 (w64 x) (w64 y)=Op.intArith .add .u64 (J0 x) (J0 y) from rfl,add64];rfl) (fun _ _ _=>rfl) rfl
def E4w {Φ:Fcts} {S:World→Prop} (x y:UInt64):DC Tryz.prog Φ S:=C6o (op:=.sub) (x:=w64 x) (y:=w64 y) (v:=w64 (x-y)) (fun W=>by rw[show binOp .sub 117 (w64 x) (w64 y)=Op.intArith .sub .u64 (J0 x) (J0 y) from rfl,B8m];rfl) (fun _ _ _=>rfl) rfl
def Ye {Φ:Fcts} {S:World→Prop} (x y:UInt64):DC Tryz.prog Φ S:=C6o (op:=.mul) (x:=w64 x) (y:=w64 y) (v:=w64 (x*y)) (fun W=>by rw[show binOp .mul 117 (w64 x) (w64 y)=Op.intArith .mul .u64 (J0 x) (J0 y) from rfl,A5n];rfl) (fun _ _ _=>rfl) rfl
def Tp {Φ:Fcts} {S:World→Prop} (x y:UInt64):DC Tryz.prog Φ S:=C6o (op:=.and) (x:=w64 x) (y:=w64 y) (v:=w64 (x &&& y)) (fun W=>by rw[show binOp .and 117 (w64 x) (w64 y)=Op.intBits .and .u64 (J0 x) (J0 y) from rfl,B2q];rfl) (fun _ _ _=>rfl) rfl
def C7l {Φ:Fcts} {S:World→Prop} (x:UInt64) (k:IntKind) (s:Nat) (hs:s<64):DC Tryz.prog Φ S:=C6o (op:=.shr) (x:=w64 x) (y:=.int k (s:Int)) (v:=w64 (x >>> UInt64.ofNat s)) (fun W=>by rw[show binOp .shr 117 (w64 x) (.int k (s:Int))=Op.shift .shr .u64 (J0 x) k (s:Int) from rfl,Bi x k s hs];rfl) (fun _ _ _=>rfl) rfl
def avs (l:List UInt64):List Av:=l.map fun x=>Gl [x] 1 rfl
def dE5 {Φ:Fcts} {S:World→Prop} {f:FuncId} {args:Array Value} {l:List UInt64} (h:∀W,Calls Tryz.prog f args W fun e W'=>e=.returned (J7 l)∧Below W.heap.size W W'):DC Tryz.prog Φ S:=⟨.call f (fun _=>args) (fun _=>(J7 l)) none (fun _ _=>True),fun _ W _ _=>h W,avs l⟩
theorem B1e {p:List UInt64→Prop} (h:∀a b c d e,p [a,b,c,d,e]):∀l:List UInt64,l.length=5→p l
 | [a,b,c,d,e],_=>h a b c d e
theorem C5c {p:List UInt64→Prop} (h:∀a b,p [a,b]):∀l:List UInt64,l.length=2→p l
 | [a,b],_=>h a b
def gE:Cfg:=⟨fun t=>if t=138 then some [1,1,1,1,1] else none,fun _=>none,noF⟩
def gE2:Cfg:=⟨fun t=>if t=211 then some [1,1] else gE.cut t,fun _=>none,noF⟩
end
section
def Jz (f g:Nat→UInt64) (n i:Nat):List UInt64:=(List.range n).map fun j=>if j<i then f j else g j
@[simp, go_sem] theorem Ot (f g : Nat → UInt64) (n i : Nat) : (Jz f g n i).length = n := by simp [Jz]
theorem B1x {f g:Nat→UInt64} {n i j:Nat} (hj:j<n):J6 (Jz f g n i) j=if j<i then f j else g j:=by
 unfold J6 Jz;rw[List.getD_eq_getElem?_getD,List.getElem?_map,List.getElem?_range hj];rfl
theorem A2m {f g:Nat→UInt64} {n i:Nat} (hi:i<n) {x:UInt64} (hx:x=f i):(Jz f g n i).set i x=Jz f g n (i+1):=by
 subst hx;apply List.ext_getElem?;intro j;unfold Jz;rw[List.getElem?_set];by_cases h:i=j
 ·subst h;rw[if_pos rfl,if_pos (by simpa using hi),List.getElem?_map,List.getElem?_range hi];simp
 ·rw[if_neg h,List.getElem?_map,List.getElem?_map];by_cases hj:j<n
  ·rw[List.getElem?_range hj];simp only[Option.map_some];have:(j<i+1)↔(j<i):=by omega
   simp[this]
  ·rw[List.getElem?_eq_none (by simpa using hj)];rfl
theorem A3t {f:Nat→UInt64} {l:List UInt64} {n:Nat} (hl:l.length=n):Jz f (J6 l) n 0=l:=by
 apply List.ext_getElem?;intro j;unfold Jz;rw[List.getElem?_map];by_cases hj:j<n
 ·rw[List.getElem?_range hj,List.getElem?_eq_getElem (by omega)];simp[J6,List.getD_eq_getElem?_getD,List.getElem?_eq_getElem (show j<l.length by omega)]
 ·rw[List.getElem?_eq_none (by simpa using hj),List.getElem?_eq_none (by omega)];rfl
theorem B3i {f:Nat→UInt64} {n:Nat}:Jz f (fun _=>0) n 0=J8 n:=by
 apply List.ext_getElem?;intro j;unfold Jz J8;rw[List.getElem?_map,List.getElem?_replicate];by_cases hj:j<n
 ·rw[List.getElem?_range hj,if_pos hj];rfl
 ·rw[List.getElem?_eq_none (by simpa using hj),if_neg hj];rfl
set_option maxRecDepth 100000
theorem Hn (a:List UInt64) (ha:a.length=5) (w:World):Calls Tryz.prog 134 #[J7 a] w fun e w'=>e=.returned (J7 (Gc a))∧Below w.heap.size w w':=by
 revert a;refine B1e fun a b c d e=>?_;let l:=[a,b,c,d,e]
 let L:UInt64:=2251799813685247
 exact T3 (g:=gE) 100 (avs l) (((List.range 5).flatMap fun i=>[C7l (J6 l i) .u64 51 (by decide),Tp (J6 l i) L])++([Ye 19 (e >>> 51),A6b (a &&& L) ((19:UInt64)*(e >>> 51))]++(List.range 4).map fun i=>A6b (J6 l (i+1) &&& L) (J6 l i >>> 51)))
  Af Tryz.func134 (by kernel_rfl)
end
section
def Q5:World→List (TypeId×List Value)→World
 | w,[]=>w
 | w,x::l=>Q5 (w.alloc (.cells x.2.toArray x.1)) l
theorem J9:∀(l:List (TypeId×List Value)) (w:World),Below w.heap.size w (Q5 w l)
 | [],w=>Below.refl _ _
 | x::l,w=>((Below.refl _ _).alloc (Nat.le_refl _) _).trans ((J9 l _).mono (by simp))
theorem H9:∀(l:List (TypeId×List Value)) (w:World),(Q5 w l).heap.size=w.heap.size+l.length
 | [],w=>rfl
 | x::l,w=>by rw[Q5,H9 l];simp;omega
theorem F9:∀(l:List (TypeId×List Value)) (w:World) (i:Nat) (t:TypeId) (cs:List Value),l[i]?=some (t,cs)→Bk (Q5 w l) (w.heap.size+i) t cs
 | [],_,_,_,_,h=>by simp at h
 | x::l,w,0,t,cs,h=>by
  simp only[List.getElem?_cons_zero,Option.some.injEq]at h;subst h;exact (Bk.new w t cs).below (J9 l _) (by simp)
 | x::l,w,i+1,t,cs,h=>by
  have:=F9 l (w.alloc (.cells x.2.toArray x.1)) i t cs (by simpa using h);rw[Q5];have e:(w.alloc (.cells x.2.toArray x.1)).heap.size+i=w.heap.size+(i+1):=by simp;omega
  rwa [e]at this
set_option maxRecDepth 100000
theorem Us (t0 t1 t2 t3 t4:List UInt64) (h0:t0.length=2) (h1:t1.length=2) (h2:t2.length=2) (h3:t3.length=2) (h4:t4.length=2) (w:World):Calls Tryz.prog 133 #[J7 t0,J7 t1,J7 t2,J7 t3,J7 t4] w fun e w'=>e=.returned (J7 (Ll t0 t1 t2 t3 t4))∧Below w.heap.size w w':=by
 revert t0;refine C5c fun a0 a1=>?_;revert t1;refine C5c fun b0 b1=>?_;revert t2;refine C5c fun c0 c1=>?_;revert t3;refine C5c fun d0 d1=>?_;revert t4;refine C5c fun e0 e1=>?_;let L:UInt64:=2251799813685247
 let c:UInt64:=19
 let o:=fun (x y:UInt64)=>(dV (C8e [x,y] rfl) rfl:DC1 w)
 exact T3 (g:=gE2) 100 (avs [a0,a1,b0,b1,c0,c1,d0,d1,e0,e1]) [o a0 a1,o b0 b1,o c0 c1,o d0 d1,o e0 e1,Tp a1 L,Ye c (over [e0,e1]),A6b (a1 &&& L) (c*over [e0,e1]),
  Tp b1 L,A6b (b1 &&& L) (over [a0,a1]),Tp c1 L,A6b (c1 &&& L) (over [b0,b1]),Tp d1 L,A6b (d1 &&& L) (over [c0,c1]),Tp e1 L,A6b (e1 &&& L) (over [d0,d1]),dE5 (Hn (D0y [a0,a1] [b0,b1] [c0,c1] [d0,d1] [e0,e1]) rfl)] Af Tryz.func133 (by kernel_rfl)
def A5z (a b:List UInt64):List UInt64:=Ac (Ac (Ac (Ac (Nz (J6 a 0) (J6 b 0)) (19*J6 a 1) (J6 b 4)) (19*J6 a 2) (J6 b 3)) (19*J6 a 3) (J6 b 2)) (19*J6 a 4) (J6 b 1)
@[simp, go_sem] theorem C9a (a b : List UInt64) : (A5z a b).length = 2 := rfl
def A7g (a b:List UInt64):List UInt64:=Ac (Ac (Ac (Ac (Nz (J6 a 0) (J6 b 1)) (J6 a 1) (J6 b 0)) (19*J6 a 2) (J6 b 4)) (19*J6 a 3) (J6 b 3)) (19*J6 a 4) (J6 b 2)
@[simp, go_sem] theorem C9f (a b : List UInt64) : (A7g a b).length = 2 := rfl
def A7s (a b:List UInt64):List UInt64:=Ac (Ac (Ac (Ac (Nz (J6 a 0) (J6 b 2)) (J6 a 1) (J6 b 1)) (J6 a 2) (J6 b 0)) (19*J6 a 3) (J6 b 4)) (19*J6 a 4) (J6 b 3)
@[simp, go_sem] theorem C9b (a b : List UInt64) : (A7s a b).length = 2 := rfl
def A8m (a b:List UInt64):List UInt64:=Ac (Ac (Ac (Ac (Nz (J6 a 0) (J6 b 3)) (J6 a 1) (J6 b 2)) (J6 a 2) (J6 b 1)) (J6 a 3) (J6 b 0)) (19*J6 a 4) (J6 b 4)
@[simp, go_sem] theorem C8v (a b : List UInt64) : (A8m a b).length = 2 := rfl
def A6i (a b:List UInt64):List UInt64:=Ac (Ac (Ac (Ac (Nz (J6 a 0) (J6 b 4)) (J6 a 1) (J6 b 3)) (J6 a 2) (J6 b 2)) (J6 a 3) (J6 b 1)) (J6 a 4) (J6 b 0)
@[simp, go_sem] theorem C9c (a b : List UInt64) : (A6i a b).length = 2 := rfl
def P6 (a b:List UInt64):List UInt64:=Ll (A5z a b) (A7g a b) (A7s a b) (A8m a b) (A6i a b)
@[simp, go_sem] theorem D4o (a b : List UInt64) : (P6 a b).length = 5 := rfl
def D4v {Φ:Fcts} {S:World→Prop} (x y:UInt64):DC Tryz.prog Φ S:=dR 2 (A9o x y) rfl
def C7g {Φ:Fcts} {S:World→Prop} (p:List UInt64) (hp:p.length=2) (x y:UInt64):DC Tryz.prog Φ S:=dR 2 (C4l p hp x y) rfl
def D4y {Φ:Fcts} {S:World→Prop}:(p:List UInt64)→p.length=2→List (UInt64×UInt64)→List (DC Tryz.prog Φ S)
 | _,_,[]=>[]
 | p,hp,(x,y)::l=>C7g p hp x y::D4y (Ac p x y) rfl l
def A7t {Φ:Fcts} {S:World→Prop} (x y:UInt64) (l:List (UInt64×UInt64)):List (DC Tryz.prog Φ S):=D4v x y::D4y (Nz x y) rfl l
theorem Q6 (a b:List UInt64) (ha:a.length=5) (hb:b.length=5) (w:World):Calls Tryz.prog 102 #[J7 a,J7 b] w fun e w'=>e=.returned (J7 (P6 a b))∧Below w.heap.size w w':=by
 revert a;refine B1e fun a0 a1 a2 a3 a4=>?_;revert b;refine B1e fun b0 b1 b2 b3 b4=>?_;let a:=[a0,a1,a2,a3,a4]
 let b:=[b0,b1,b2,b3,b4]
 let c:UInt64:=19
 exact T3 (g:=gE) 100 (avs a++avs b) ([Ye c a1,Ye c a2,Ye c a3,Ye c a4]++(A7t a0 b0 [(c*a1,b4),(c*a2,b3),(c*a3,b2),(c*a4,b1)]++(A7t a0 b1 [(a1,b0),(c*a2,b4),(c*a3,b3),(c*a4,b2)]++(A7t a0 b2 [(a1,b1),(a2,b0),(c*a3,b4),(c*a4,b3)] ++
  (A7t a0 b3 [(a1,b2),(a2,b1),(a3,b0),(c*a4,b4)]++(A7t a0 b4 [(a1,b3),(a2,b2),(a3,b1),(a4,b0)]++[dE5 (Us (A5z a b) (A7g a b) (A7s a b) (A8m a b) (A6i a b) rfl rfl rfl rfl rfl)])))))) Af Tryz.func102 (by kernel_rfl)
def B8u (a:List UInt64):List UInt64:=Ac (Ac (Nz (J6 a 0) (J6 a 0)) (2*J6 a 1) (19*J6 a 4)) (2*J6 a 2) (19*J6 a 3)
@[simp, go_sem] theorem D3b (a : List UInt64) : (B8u a).length = 2 := rfl
def B8i (a:List UInt64):List UInt64:=Ac (Ac (Nz (2*J6 a 0) (J6 a 1)) (2*J6 a 2) (19*J6 a 4)) (J6 a 3) (19*J6 a 3)
@[simp, go_sem] theorem D2i (a : List UInt64) : (B8i a).length = 2 := rfl
def B7n (a:List UInt64):List UInt64:=Ac (Ac (Nz (2*J6 a 0) (J6 a 2)) (J6 a 1) (J6 a 1)) (2*J6 a 3) (19*J6 a 4)
@[simp, go_sem] theorem C9p (a : List UInt64) : (B7n a).length = 2 := rfl
def B7m (a:List UInt64):List UInt64:=Ac (Ac (Nz (2*J6 a 0) (J6 a 3)) (2*J6 a 1) (J6 a 2)) (J6 a 4) (19*J6 a 4)
@[simp, go_sem] theorem D0v (a : List UInt64) : (B7m a).length = 2 := rfl
def B8s (a:List UInt64):List UInt64:=Ac (Ac (Nz (2*J6 a 0) (J6 a 4)) (2*J6 a 1) (J6 a 3)) (J6 a 2) (J6 a 2)
@[simp, go_sem] theorem D2e (a : List UInt64) : (B8s a).length = 2 := rfl
def fsq (a:List UInt64):List UInt64:=Ll (B8u a) (B8i a) (B7n a) (B7m a) (B8s a)
@[simp, go_sem] theorem D7h (a : List UInt64) : (fsq a).length = 5 := rfl
set_option maxRecDepth 100000
theorem Yj (a:List UInt64) (ha:a.length=5) (w:World):Calls Tryz.prog 148 #[J7 a] w fun e w'=>e=.returned (J7 (fsq a))∧Below w.heap.size w w':=by
 revert a;refine B1e fun a0 a1 a2 a3 a4=>?_;let a:=[a0,a1,a2,a3,a4]
 let c:UInt64:=19
 let t:UInt64:=2
 exact T3 (g:=gE) 100 (avs a) ([Ye t a0,Ye t a1,Ye t a2,Ye c a3,Ye c a4]++(A7t a0 a0 [(t*a1,c*a4),(t*a2,c*a3)]++(A7t (t*a0) a1 [(t*a2,c*a4),(a3,c*a3)]++([D4v (t*a0) a2,C7g (Nz (t*a0) a2) rfl a1 a1,Ye t a3,C7g (Ac (Nz (t*a0) a2) a1 a1) rfl (t*a3) (c*a4)] ++
  (A7t (t*a0) a3 [(t*a1,a2),(a4,c*a4)]++(A7t (t*a0) a4 [(t*a1,a3),(a2,a2)]++[dE5 (Us (B8u a) (B8i a) (B7n a) (B7m a) (B8s a) rfl rfl rfl rfl rfl)])))))) Af Tryz.func148 (by kernel_rfl)
end
section
variable {w W : World} {l : List (TypeId × List Value)} {t : TypeId} {cs : List Value}
theorem KL' (i : Nat) (h : W = Q5 w l) (e : l[i]? = some (t, cs)) : Bk W (w.heap.size + i) t cs := h ▸ F9 _ w i _ _ e
theorem KZ' (h : W = Q5 w l) (e : l[0]? = some (t, cs)) : Bk W w.heap.size t cs := h ▸ F9 _ w 0 _ _ e
theorem BL' (h : W = Q5 w l) : Below w.heap.size w W := h ▸ J9 _ _
theorem ZL' (n : Nat) (h : W = Q5 w l) (e : l.length = n) : w.heap.size + n ≤ W.heap.size := by rw [h, H9, e]; exact Nat.le_refl _
theorem SL' (n : Nat) (h : W = Q5 w l) (e : l.length = n) : W.heap.size = w.heap.size + n := by rw [h, H9, e]
end
end Go.Proofs.YtlegpkdighoflaaGreat
