/- A part of the proof of DirPlays. -/
import Derived.LoopN
import Derived.Test.YtlegpkdighoflaaGreatRap
import Derived.Test.YtlegpkdighoflaaGreatRaq
set_option linter.unusedVariables false
set_option linter.unusedSimpArgs false
set_option maxRecDepth 100000
set_option maxHeartbeats 40000000
namespace Go.Proofs.YtlegpkdighoflaaGreat
open Go Go.RowKit Sh
section
inductive XK where
 | nrm
 | ext (id:Nat)
 | ret
def XK.ex:XK→Exit
 | .nrm=>.normal
 | .ext id=>.exit id
 | .ret=>.ret
abbrev Out := XK × St × Nat × List Rq
def A1o (body:St→Nat→Option Out):Nat→St→Nat→Option Out
 | 0,_,_=>none
 | m+1,s,na=>match body s na with
  | some (.nrm,s1,n1,q1)=>match A1o body m s1 n1 with
   | some (k,s2,n2,q2)=>some (k,s2,n2,q1++q2)
   | none=>none
  | r=>r
def A9h (P:Program) (g:TypeId→Option (List Nat)) (ρ:List Av):Nat→Code→St→Nat→Option Out
 | 0,_,_,_=>none
 | n+1,c,s,na=>match c with
  | .skip | .label _=>some (.nrm,s,na,[])
  | .ret=>some (.ret,s,na,[])
  | .exit id=>some (.ext id,s,na,[])
  | .region _ ops _=>match D1d P g ρ ops.toList ops.toList s na with
   | some (evs,s',na')=>if D8u ops.toList s evs=true then some (.nrm,s',na',evs.filterMap (·.rq)) else none
   | none=>none
  | .seq x y=>match A9h P g ρ n x s na with
   | some (.nrm,s1,n1,q1)=>match A9h P g ρ n y s1 n1 with
    | some (k,s2,n2,q2)=>some (k,s2,n2,q1++q2)
    | none=>none
   | r=>r
  | .cond c x y=>match (Jy s c).bind (Zu ρ) with
   | some b=>A9h P g ρ n (if b then x else y) s na
   | none=>none
  | .block id b=>match A9h P g ρ n b s na with
   | some (.ext i,s1,n1,q)=>some (if i=id then .nrm else .ext i,s1,n1,q)
   | r=>r
  | .loop b=>A1o (A9h P g ρ n b) n s na
  | _=>none
section
variable {P : Program} {g : TypeId → Option (List Nat)} {ρ : List Av}
def E0l (P:Program) (ρ:List Av) (c:Code) (s:St) (o:Out):Prop:=
 (∀q∈o.2.2.2,q.Ok P ρ)→∀(μ:Nat→Nat) (a:Act) (w:World) (Q:Exit→Act→World→Prop),Rel ρ s μ a w→
  (∀μ' a' w',Rel ρ o.2.1 μ' a' w'→Goes s μ w o.2.1 μ' w'→Q o.1.ex a' w')→c.wp P Q a w
theorem D7w {s:St} {c:Operand} {x:SV} {μ:Nat→Nat} {a:Act} {w:World} (hR:Rel ρ s μ a w) (h:Jy s c=some x):a.eval c=x.val ρ μ:=by
 cases c with
 | tmp t=>exact hR.tm t x h
 | const v=>exact (Oh h).symm
 | global _=>cases h
 | func _=>cases h
theorem A3p {c:Code} {body:St→Nat→Option Out} (hb:∀s na o,body s na=some o→E0l P ρ c s o):∀(m:Nat) (s:St) (na:Nat) (o:Out),A1o body m s na=some o→
 (∀q∈o.2.2.2,q.Ok P ρ)→∀(μ:Nat→Nat) (a:Act) (w:World) (Q:Exit→Act→World→Prop),Rel ρ s μ a w→
 (∀μ' a' w',Rel ρ o.2.1 μ' a' w'→Goes s μ w o.2.1 μ' w'→Q o.1.ex a' w')→Code.rounds P c Q m a w
 | 0,s,na,o,h=>by cases h
 | m+1,s,na,o,h=>by
  intro hq μ a w Q hR hQ;rw[rounds_succ];unfold A1o at h;split at h
  ·rename_i s1 n1 q1 h1
   split at h
   ·rename_i k s2 n2 q2 h2
    cases h;refine hb s na _ h1 (fun q hm=>hq q (by simp[hm])) μ a w _ hR fun μ' a' w' hR' hG=>?_;show Code.rounds P c Q m a' w';exact A3p hb m s1 n1 _ h2 (fun q hm=>hq q (by simp[hm])) μ' a' w' Q hR' fun μ2 a2 w2 hR2 hG2=>hQ μ2 a2 w2 hR2 (hG.trans hG2)
   ·cases h
  ·rename_i hne
   obtain⟨k,s1,n1,q1⟩:=o;refine hb s na _ h hq μ a w _ hR fun μ' a' w' hR' hG=>?_;cases k with
   | nrm=>exact absurd h (hne s1 n1 q1)
   | ext id=>exact hQ μ' a' w' hR' hG
   | ret=>exact hQ μ' a' w' hR' hG
theorem Fr (hm:P.follows .mixedOrders=true):∀(n:Nat) (c:Code) (s:St) (na:Nat) (o:Out),A9h P g ρ n c s na=some o→E0l P ρ c s o
 | 0,c,s,na,o,h=>by cases h
 | n+1,c,s,na,o,h=>by
  intro hq μ a w Q hR hQ;cases c<;>simp only[A9h]at h;case skip=>cases h;exact wp_skip (hQ μ a w hR (Goes.refl _ _ _))
  case label l=>cases h;exact wp_label (hQ μ a w hR (Goes.refl _ _ _))
  case ret=>cases h;exact wp_ret (hQ μ a w hR (Goes.refl _ _ _))
  case exit id=>cases h;exact wp_exit (hQ μ a w hR (Goes.refl _ _ _))
  case region id ops draw=>
   split at h
   ·rename_i evs s' na' hrun
    split at h
    ·rename_i hreg
     cases h;have h1:=C4t (id:=id) (draw:=draw) (Q:=Q) hm hrun hreg (fun ev hev q hqe=>hq q (List.mem_filterMap.2 ⟨ev,hev,hqe⟩)) hR fun μ' a' w' hR' hG=>hQ μ' a' w' hR' hG;simpa using h1
    ·cases h
   ·cases h
  case seq x y=>
   split at h
   ·rename_i s1 n1 q1 h1
    split at h
    ·rename_i k s2 n2 q2 h2
     cases h;refine wp_seq ?_;refine Fr hm n x s na _ h1 (fun q hmq=>hq q (by simp[hmq])) μ a w _ hR fun μ' a' w' hR' hG=>?_;show y.wp P Q a' w';exact Fr hm n y s1 n1 _ h2 (fun q hmq=>hq q (by simp[hmq])) μ' a' w' Q hR' fun μ2 a2 w2 hR2 hG2=>hQ μ2 a2 w2 hR2 (hG.trans hG2)
    ·cases h
   ·rename_i hne
    obtain⟨k,s1,n1,q1⟩:=o;refine wp_seq ?_;refine Fr hm n x s na _ h hq μ a w _ hR fun μ' a' w' hR' hG=>?_;cases k with
    | nrm=>exact absurd h (hne s1 n1 q1)
    | ext id=>exact hQ μ' a' w' hR' hG
    | ret=>exact hQ μ' a' w' hR' hG
  case cond c x y=>
   split at h
   ·rename_i b hb
    cases hc:Jy s c with
    | none=>rw[hc]at hb;cases hb
    | some sc=>
     rw[hc]at hb;exact wp_cond ((D7w hR hc).trans (Oe hb)) (Fr hm n _ s na o h hq μ a w Q hR hQ)
   ·cases h
  case block id b=>
   refine wp_block ?_;split at h
   ·rename_i i s1 n1 q1 h1
    cases h;refine Fr hm n b s na _ h1 hq μ a w _ hR fun μ' a' w' hR' hG=>?_;have h2:=hQ μ' a' w' hR' hG;show Exit.inBlock id Q (.exit i) a' w';unfold Exit.inBlock;simp only;split
    ·rename_i h3;rw[if_pos h3]at h2;exact h2
    ·rename_i h3;rw[if_neg h3]at h2;exact h2
   ·rename_i hne
    obtain⟨k,s1,n1,q1⟩:=o;refine Fr hm n b s na _ h hq μ a w _ hR fun μ' a' w' hR' hG=>?_;cases k with
    | nrm=>exact hQ μ' a' w' hR' hG
    | ext i=>exact absurd h (hne i s1 n1 q1)
    | ret=>exact hQ μ' a' w' hR' hG
  case loop b=>exact wp_loop_rounds n (A3p (fun s na o h=>Fr hm n b s na o h) n s na o h hq μ a w Q hR hQ)
  all_goals (cases h)
end
end
section
def Hc (P:Program) (s:St):ResultVar→Option (Bool×List Sg)
 | .tmp t=>match s.σ[t]? with
  | some (.v a l)=>some (a,l)
  | _=>none
 | .cell t T=>do
  let (b,f) ←(s.σ[t]?).bind Qe
  let (_,cs) ←s.blk b
  let n ←Qi P T
  let a ←Xu P T
  let l ←A6m cs f n
  if (!a&&l.length != 1)||n==0||(!a&&n != 1) then none else some (a,l)
def D8j (P:Program) (s:St):List ResultVar→Option SV
 | []=>some (.tup [])
 | [r]=>(Hc P s r).map fun x=>.v x.1 x.2
 | [r1,r2]=>do let x ←Hc P s r1;let y ←Hc P s r2;some (.tup [x,y])
 | [r1,r2,r3]=>do let x ←Hc P s r1;let y ←Hc P s r2;let z ←Hc P s r3;some (.tup [x,y,z])
 | _=>none
def Vs (σ:List SV) (n:Nat):St:=⟨σ++List.replicate (n-σ.length) (.v false [.c undef]),[]⟩
def E2d (P:Program) (g:TypeId→Option (List Nat)) (fuel:Nat) (fn:Func) (ρ:List Av):Option (Array Value×List Eqn×Value):=
 match fn.body,Wd P g 0 fn.params.toList with
 | some c,some (ps,na)=>match A9h P g ρ fuel c (Vs (ps.map fun x=>.v x.1 x.2) fn.ntmps) na with
  | some (.ext _,_,_,_)=>none
  | some (_,s',_,qs)=>match D8j P s' fn.results.toList with
   | some r=>if r.okn (fun _=>false)=true then some ((ps.map fun x=>cv ρ id x.1 x.2).toArray,qs.map (Rq.eqn ρ),r.val ρ id) else none
   | none=>none
  | none=>none
 | _,_=>none
def E8j (tmps:Array Value):ResultVar→Sem Value
 | .tmp t=>pure (tmps.getD t undef)
 | .cell b t=>do loadVar t (←asAddr (tmps.getD b undef))
section
variable {P : Program} {g : TypeId → Option (List Nat)} {ρ : List Av}
theorem B8e (fn:Func) (tmps:Array Value):results fn tmps=(do let vs ←fn.results.mapM (E8j tmps);pure (if h:vs.size=1 then vs[0] else .tuple vs)):=by
 unfold results;congr 1
theorem Jg {s:St} {μ:Nat→Nat} {a:Act} {w:World} {r:ResultVar} {x:Bool×List Sg} (hR:Rel ρ s μ a w) (h:Hc P s r=some x) :
 (E8j a.tmps r).run P w=.ok (cv ρ μ x.1 x.2) w:=by
 cases r with
 | tmp t=>
  simp only[Hc]at h;split at h
  ·rename_i ag l hx
   cases h;have:=hR.tm t _ hx;show Result.ok (a.tmps.getD t undef) w=_;rw[this];rfl
  ·cases h
 | cell t T=>
  simp only[Hc,bind,Option.bind]at h;cases hx:s.σ[t]? with
  | none=>rw[hx]at h;cases h
  | some y=>
   rw[hx]at h;simp only at h;cases hp:Qe y with
   | none=>rw[hp]at h;cases h
   | some bf=>
    obtain⟨b,f⟩:=bf;rw[hp]at h;simp only at h;cases hb:s.blk b with
    | none=>rw[hb]at h;cases h
    | some Tc=>
     obtain⟨T',cs⟩:=Tc;rw[hb]at h;simp only at h;cases hs:Qi P T with
     | none=>rw[hs]at h;cases h
     | some n=>
      rw[hs]at h;simp only at h;cases ha:Xu P T with
      | none=>rw[ha]at h;cases h
      | some ag=>
       rw[ha]at h;simp only at h;cases hc:A6m cs f n with
       | none=>rw[hc]at h;cases h
       | some l=>
        rw[hc]at h;simp only at h;split at h
        ·cases h
        ·rename_i hcond
         cases h;have h1:=A7u (P:=P) (w:=w) (t:=T) (hR.bl b T' cs hb) hs ha hc (by intro h0;subst h0;simp at hcond) (by intro h0;subst h0;simp at hcond;exact ⟨hcond.1.1,hcond.2⟩);have h2:=hR.tm t _ hx;rw[Nw hp]at h2;show (do loadVar T (←asAddr (a.tmps.getD t undef)):Sem Value).run P w=_;rw[h2];exact h1
theorem C9e {fn:Func} {s:St} {μ:Nat→Nat} {a:Act} {w:World} {r:SV} (hR:Rel ρ s μ a w) (h:D8j P s fn.results.toList=some r):(results fn a.tmps).run P w=.ok (r.val ρ μ) w:=by
 have hl:fn.results=fn.results.toList.toArray:=by simp
 generalize fn.results.toList=rs at h hl;rw[B8e,hl];unfold D8j at h;split at h
 ·cases h;simp[SV.val]
 ·rename_i r1
  cases h1:Hc P s r1 with
  | none=>rw[h1]at h;cases h
  | some x=>
   rw[h1]at h;cases h;simp[Jg hR h1,SV.val]
 ·rename_i r1 r2
  simp only[bind,Option.bind]at h;cases h1:Hc P s r1 with
  | none=>rw[h1]at h;cases h
  | some x=>
   rw[h1]at h;simp only at h;cases h2:Hc P s r2 with
   | none=>rw[h2]at h;cases h
   | some y=>
    rw[h2]at h;cases h;simp[Jg hR h1,Jg hR h2,SV.val]
 ·rename_i r1 r2 r3
  simp only[bind,Option.bind]at h;cases h1:Hc P s r1 with
  | none=>rw[h1]at h;cases h
  | some x=>
   rw[h1]at h;simp only at h;cases h2:Hc P s r2 with
   | none=>rw[h2]at h;cases h
   | some y=>
    rw[h2]at h;simp only at h;cases h3:Hc P s r3 with
    | none=>rw[h3]at h;cases h
    | some z=>
     rw[h3]at h;cases h;simp[Jg hR h1,Jg hR h2,Jg hR h3,SV.val]
 ·cases h
theorem C5b {xs:List (Bool×List Sg)} {n:Nat} (hn:(xs.all fun y=>y.2.all (·.okn fun _=>false))=true) (w:World) :
 Rel ρ (Vs (xs.map fun x=>.v x.1 x.2) n) id { tmps:=(xs.map fun x=>cv ρ id x.1 x.2).toArray++Array.replicate (n-(xs.map fun x=>cv ρ id x.1 x.2).toArray.size) undef,defers:=[] } w:=by
 have aA:∀b,(Vs (xs.map fun x=>SV.v x.1 x.2) n).blk b=none:=fun b=>rfl;have hσ:∀(t:Nat) x,(Vs (xs.map fun x=>SV.v x.1 x.2) n).σ[t]?=some x→(∃y,xs[t]?=some y∧x=.v y.1 y.2)∨(xs.length≤t∧t<xs.length+(n-xs.length)∧x=.v false [.c undef]):=by
  intro t x hx;simp only[Vs]at hx;rcases Nat.lt_or_ge t xs.length with h | h
  ·rw[List.getElem?_append_left (by simpa using h)]at hx;simp only[List.getElem?_map,Option.map_eq_some_iff]at hx;obtain⟨y,h1,h2⟩:=hx;exact .inl ⟨y,h1,h2.symm⟩
  ·rw[List.getElem?_append_right (by simpa using h)]at hx;have h1:=(List.getElem?_eq_some_iff.1 hx);obtain⟨h2,h3⟩:=h1;simp only[List.length_map,List.length_replicate]at h2;exact .inr ⟨h,by omega,by rw[←h3];simp⟩
 refine ⟨by simp[Vs],rfl,fun t x hx=>?_,fun b T cs hb=>(by rw[aA]at hb;cases hb),fun b b' hb=>(by rw[aA]at hb;cases hb),fun t x hx=>?_,fun b T cs hb=>(by rw[aA]at hb;cases hb)⟩
 ·rcases hσ t x hx with ⟨y,h1,rfl⟩ | ⟨h1,h2,rfl⟩
  ·have h3:=(List.getElem?_eq_some_iff.1 h1).1;simp only[Array.getD_eq_getD_getElem?];rw[Array.getElem?_append_left (by simpa using h3)];simp[h1,SV.val]
  ·simp only[Array.getD_eq_getD_getElem?];rw[Array.getElem?_append_right (by simpa using h1)];simp;rw[Array.getElem?_replicate];split<;>rfl
 ·rcases hσ t x hx with ⟨y,h1,rfl⟩ | ⟨h1,h2,rfl⟩
  ·have h3:=List.all_eq_true.1 hn y (List.mem_of_getElem? h1);exact Qp (fun b hb=>by cases hb) h3
  ·rfl
theorem B9t {f fuel:Nat} {fn:Func} {args:Array Value} {es:List Eqn} {v:Value} (hm:P.follows .mixedOrders=true) (hf:P.funcs[f]?=some fn) (h:E2d P g fuel fn ρ=some (args,es,v)) (hes:∀e∈es,e.Ok P) (w:World) :
 Calls P f args w fun e w'=>e=.returned v∧Below w.heap.size w w':=by
 unfold E2d at h;split at h
 ·rename_i c ps na hb hps
  have aD:=Vz hps (fun _=>false);have aE:∀(k:XK) (s':St) (aC:Nat) (qs:List Rq),A9h P g ρ fuel c (Vs (ps.map fun x=>.v x.1 x.2) fn.ntmps) na=some (k,s',aC,qs)→(k=.nrm∨k=.ret)→
   (match D8j P s' fn.results.toList with
   | some r=>if r.okn (fun _=>false)=true then some ((ps.map fun x=>cv ρ id x.1 x.2).toArray,qs.map (Rq.eqn ρ),r.val ρ id) else none
   | none=>none)=some (args,es,v)→Calls P f args w fun e w'=>e=.returned v∧Below w.heap.size w w':=by
   intro k s' aC qs aB hk aA;split at aA
   ·rename_i r hr
    split at aA
    ·rename_i hok
     cases aA;refine calls_of_wp hf hb ?_;refine Fr hm fuel c _ na _ aB (fun q hq=>hes _ (List.mem_map_of_mem hq)) id _ w _ (C5b aD w) fun μ' a' w' hR hG=>?_;have h1:=C9e (fn:=fn) hR hr;have h2:r.val ρ μ'=r.val ρ id:=SV.val_congr (N:=fun _=>false) (fun b hb=>by cases hb) hok;rw[h2]at h1;have h3:Below w.heap.size w w':=⟨hG.kp.os,hG.kp.tape,hG.kp.output,hG.kp.size,fun k hk=>hG.kp.block k hk fun b hb=>by cases hb⟩;rcases hk with rfl | rfl
     ·exact ⟨hR.df,_,h1,rfl,h3⟩
     ·exact ⟨hR.df,_,h1,rfl,h3⟩
    ·cases aA
   ·cases aA
  split at h
  ·cases h
  ·rename_i k s' aC qs hne aB
   refine aE k s' aC qs aB ?_ h;cases k with
   | nrm=>exact .inl rfl
   | ext id=>exact (hne id rfl).elim
   | ret=>exact .inr rfl
  ·cases h
 ·cases h
end
structure DC (P : Program) where
 e:Eqn
 ok:e.Ok P
 res:List Av
theorem U7 {P:Program} {g:TypeId→Option (List Nat)} {f:Nat} {fn:Func} {args:Array Value} {v:Value} (fuel:Nat) (ρ0:List Av) (ds:List (DC P)) (hm:P.follows .mixedOrders=true) (hf:P.funcs[f]?=some fn)
 (h:E2d P g fuel fn (ρ0++ds.flatMap (·.res))=some (args,ds.map (·.e),v)) (w:World):Calls P f args w fun e w'=>e=.returned v∧Below w.heap.size w w':=
 B9t hm hf h (fun e he=>by obtain⟨d,_,rfl⟩:=List.mem_map.1 he;exact d.ok) w
end
section
def Ir (l:List UInt64) (k:Nat) (h:l.length=k):Av:=⟨C9 l,k,by simp[h],fun v hv=>by
 have:=C2r l;rw[Array.all_eq_true_iff_forall_mem]at this;exact this v (by simpa using hv)⟩
def av8 (l:List UInt8) (k:Nat) (h:l.length=k):Av:=⟨c8 l,k,by simp[h],fun v hv=>by
 have:=C7y l;rw[Array.all_eq_true_iff_forall_mem]at this;exact this v (by simpa using hv)⟩
def av1 (v:Value) (h:v.oneCell'=true):Av:=⟨[v],1,rfl,fun u hu=>by rw[List.mem_singleton.1 hu];exact h⟩
section
variable {f : FuncId} {args : Array Value}
def dE {l:List UInt64} (h:∀W,Calls Tryz.prog f args W fun e W'=>e=.returned (H8 l)∧Below W.heap.size W W') (hl:l.length=5):DC Tryz.prog:=⟨.call f args (H8 l),h,[Ir l 5 hl]⟩
def dR {l:List UInt64} (k:Nat) (h:∀W,Calls Tryz.prog f args W fun e W'=>e=.returned (H8 l)∧Below W.heap.size W W') (hl:l.length=k):DC Tryz.prog:=⟨.call f args (H8 l),h,[Ir l k hl]⟩
def dV {v:Value} (h:∀W,Calls Tryz.prog f args W fun e W'=>e=.returned v∧Below W.heap.size W W') (hv:v.oneCell'=true):DC Tryz.prog:=⟨.call f args v,h,[av1 v hv]⟩
def dH {l:List UInt8} (h:∀W,Calls Tryz.prog f args W fun e W'=>e=.returned (A8 l)∧Below W.heap.size W W') (hl:l.length=32):DC Tryz.prog:=⟨.call f args (A8 l),h,[av8 l 32 hl]⟩
def dB {b:Bool} (h:∀W,Calls Tryz.prog f args W fun e W'=>e=.returned (.bool b)∧Below W.heap.size W W'):DC Tryz.prog:=⟨.call f args (.bool b),h,[av1 (.bool b) rfl]⟩
def dEB {l:List UInt64} {b:Bool} (h:∀W,Calls Tryz.prog f args W fun e W'=>e=.returned (.tuple #[H8 l,.bool b])∧Below W.heap.size W W') (hl:l.length=5):DC Tryz.prog:=⟨.call f args (.tuple #[H8 l,.bool b]),h,[Ir l 5 hl,av1 (.bool b) rfl]⟩
def dEE {l m:List UInt64} (h:∀W,Calls Tryz.prog f args W fun e W'=>e=.returned (.tuple #[H8 l,H8 m])∧Below W.heap.size W W') (hl:l.length=5) (hm:m.length=5):DC Tryz.prog:=⟨.call f args (.tuple #[H8 l,H8 m]),h,[Ir l 5 hl,Ir m 5 hm]⟩
end
theorem Bq:Tryz.prog.follows .mixedOrders=true:=by kernel_rfl
def D3w {op:BinOp} {x y v:Value} (h:∀W,(binOp op 117 x y).run Tryz.prog W=.ok v W) (hg:∀(X Y:Operand) W,(eqGuard op 117 X Y x y).run Tryz.prog W=.ok () W) (ho:v.oneCell'=true):DC Tryz.prog:=
 ⟨.bin op 117 x y v,fun X Y W=>by simp only[Sem.run_bind,hg X Y W,Result.andThen_ok,h W],[av1 v ho]⟩
abbrev w64 (x : UInt64) : Value := .int .u64 (F0 x)
def A9p (x y:UInt64):DC Tryz.prog:=D3w (op:=.add) (x:=w64 x) (y:=w64 y) (v:=w64 (x+y)) (fun W=>by rw[show binOp .add 117 (w64 x) (w64 y)=Op.intArith .add .u64 (F0 x) (F0 y) from rfl,add64];rfl) (fun _ _ _=>rfl) rfl
def E8r (x y:UInt64):DC Tryz.prog:=D3w (op:=.sub) (x:=w64 x) (y:=w64 y) (v:=w64 (x-y)) (fun W=>by rw[show binOp .sub 117 (w64 x) (w64 y)=Op.intArith .sub .u64 (F0 x) (F0 y) from rfl,C2d];rfl) (fun _ _ _=>rfl) rfl
def A1e (x y:UInt64):DC Tryz.prog:=D3w (op:=.mul) (x:=w64 x) (y:=w64 y) (v:=w64 (x*y)) (fun W=>by rw[show binOp .mul 117 (w64 x) (w64 y)=Op.intArith .mul .u64 (F0 x) (F0 y) from rfl,A8u];rfl) (fun _ _ _=>rfl) rfl
def Vn (x y:UInt64):DC Tryz.prog:=D3w (op:=.and) (x:=w64 x) (y:=w64 y) (v:=w64 (x &&& y)) (fun W=>by rw[show binOp .and 117 (w64 x) (w64 y)=Op.intBits .and .u64 (F0 x) (F0 y) from rfl,B3a];rfl) (fun _ _ _=>rfl) rfl
def C8b (x:UInt64) (k:IntKind) (s:Nat) (hs:s<64):DC Tryz.prog:=D3w (op:=.shr) (x:=w64 x) (y:=.int k (s:Int)) (v:=w64 (x >>> UInt64.ofNat s)) (fun W=>by rw[show binOp .shr 117 (w64 x) (.int k (s:Int))=Op.shift .shr .u64 (F0 x) k (s:Int) from rfl,Cp x k s hs];rfl) (fun _ _ _=>rfl) rfl
def avs (l:List UInt64):List Av:=l.map fun x=>Ir [x] 1 rfl
def dE5 {f:FuncId} {args:Array Value} {l:List UInt64} (h:∀W,Calls Tryz.prog f args W fun e W'=>e=.returned (H8 l)∧Below W.heap.size W W'):DC Tryz.prog:=⟨.call f args (H8 l),h,avs l⟩
theorem B3p {p:List UInt64→Prop} (h:∀a b c d e,p [a,b,c,d,e]):∀l:List UInt64,l.length=5→p l
 | [a,b,c,d,e],_=>h a b c d e
theorem D2f {p:List UInt64→Prop} (h:∀a b,p [a,b]):∀l:List UInt64,l.length=2→p l
 | [a,b],_=>h a b
def gE (t:TypeId):Option (List Nat):=if t=138 then some [1,1,1,1,1] else none
def gE2 (t:TypeId):Option (List Nat):=if t=211 then some [1,1] else gE t
end
section
def Lm (f g:Nat→UInt64) (n i:Nat):List UInt64:=(List.range n).map fun j=>if j<i then f j else g j
@[simp, go_sem] theorem Sr (f g : Nat → UInt64) (n i : Nat) : (Lm f g n i).length = n := by simp [Lm]
theorem B4j {f g:Nat→UInt64} {n i j:Nat} (hj:j<n):F8 (Lm f g n i) j=if j<i then f j else g j:=by
 unfold F8 Lm;rw[List.getD_eq_getElem?_getD,List.getElem?_map,List.getElem?_range hj];rfl
theorem A2y {f g:Nat→UInt64} {n i:Nat} (hi:i<n) {x:UInt64} (hx:x=f i):(Lm f g n i).set i x=Lm f g n (i+1):=by
 subst hx;apply List.ext_getElem?;intro j;unfold Lm;rw[List.getElem?_set];by_cases h:i=j
 ·subst h;rw[if_pos rfl,if_pos (by simpa using hi),List.getElem?_map,List.getElem?_range hi];simp
 ·rw[if_neg h,List.getElem?_map,List.getElem?_map];by_cases hj:j<n
  ·rw[List.getElem?_range hj];simp only[Option.map_some];have:(j<i+1)↔(j<i):=by omega
   simp[this]
  ·rw[List.getElem?_eq_none (by simpa using hj)];rfl
theorem A7k {f:Nat→UInt64} {l:List UInt64} {n:Nat} (hl:l.length=n):Lm f (F8 l) n 0=l:=by
 apply List.ext_getElem?;intro j;unfold Lm;rw[List.getElem?_map];by_cases hj:j<n
 ·rw[List.getElem?_range hj,List.getElem?_eq_getElem (by omega)];simp[F8,List.getD_eq_getElem?_getD,List.getElem?_eq_getElem (show j<l.length by omega)]
 ·rw[List.getElem?_eq_none (by simpa using hj),List.getElem?_eq_none (by omega)];rfl
theorem B7e {f:Nat→UInt64} {n:Nat}:Lm f (fun _=>0) n 0=M1 n:=by
 apply List.ext_getElem?;intro j;unfold Lm M1;rw[List.getElem?_map,List.getElem?_replicate];by_cases hj:j<n
 ·rw[List.getElem?_range hj,if_pos hj];rfl
 ·rw[List.getElem?_eq_none (by simpa using hj),if_neg hj];rfl
set_option maxRecDepth 100000
theorem Jr (a:List UInt64) (ha:a.length=5) (w:World):Calls Tryz.prog 134 #[H8 a] w fun e w'=>e=.returned (H8 (Im a))∧Below w.heap.size w w':=by
 revert a;refine B3p fun a b c d e=>?_;let l:=[a,b,c,d,e]
 let L:UInt64:=2251799813685247
 exact U7 (g:=gE) 100 (avs l) (((List.range 5).flatMap fun i=>[C8b (F8 l i) .u64 51 (by decide),Vn (F8 l i) L])++([A1e 19 (e >>> 51),A9p (a &&& L) ((19:UInt64)*(e >>> 51))]++(List.range 4).map fun i=>A9p (F8 l (i+1) &&& L) (F8 l i >>> 51)))
  Bq Tryz.func134 (by kernel_rfl) w
end
section
def O8:World→List (TypeId×List Value)→World
 | w,[]=>w
 | w,x::l=>O8 (w.alloc (.cells x.2.toArray x.1)) l
theorem Ou:∀(l:List (TypeId×List Value)) (w:World),Below w.heap.size w (O8 w l)
 | [],w=>Below.refl _ _
 | x::l,w=>(Bh _ _).trans ((Ou l _).mono (by simp))
theorem Mj:∀(l:List (TypeId×List Value)) (w:World),(O8 w l).heap.size=w.heap.size+l.length
 | [],w=>rfl
 | x::l,w=>by rw[O8,Mj l];simp;omega
theorem Nr:∀(l:List (TypeId×List Value)) (w:World) (i:Nat) (t:TypeId) (cs:List Value),l[i]?=some (t,cs)→Bk (O8 w l) (w.heap.size+i) t cs
 | [],_,_,_,_,h=>by simp at h
 | x::l,w,0,t,cs,h=>by
  simp only[List.getElem?_cons_zero,Option.some.injEq]at h;subst h;exact (Bk.new w t cs).below (Ou l _) (by simp)
 | x::l,w,i+1,t,cs,h=>by
  have:=Nr l (w.alloc (.cells x.2.toArray x.1)) i t cs (by simpa using h);rw[O8];have e:(w.alloc (.cells x.2.toArray x.1)).heap.size+i=w.heap.size+(i+1):=by simp;omega
  rwa [e]at this
set_option maxRecDepth 100000
theorem Xb (t0 t1 t2 t3 t4:List UInt64) (h0:t0.length=2) (h1:t1.length=2) (h2:t2.length=2) (h3:t3.length=2) (h4:t4.length=2) (w:World):Calls Tryz.prog 133 #[H8 t0,H8 t1,H8 t2,H8 t3,H8 t4] w fun e w'=>e=.returned (H8 (Nn t0 t1 t2 t3 t4))∧Below w.heap.size w w':=by
 revert t0;refine D2f fun a0 a1=>?_;revert t1;refine D2f fun b0 b1=>?_;revert t2;refine D2f fun c0 c1=>?_;revert t3;refine D2f fun d0 d1=>?_;revert t4;refine D2f fun e0 e1=>?_;let L:UInt64:=2251799813685247
 let c:UInt64:=19
 let o:=fun (x y:UInt64)=>dV (D3t [x,y] rfl) rfl
 exact U7 (g:=gE2) 100 (avs [a0,a1,b0,b1,c0,c1,d0,d1,e0,e1]) [o a0 a1,o b0 b1,o c0 c1,o d0 d1,o e0 e1,Vn a1 L,A1e c (over [e0,e1]),A9p (a1 &&& L) (c*over [e0,e1]),
  Vn b1 L,A9p (b1 &&& L) (over [a0,a1]),Vn c1 L,A9p (c1 &&& L) (over [b0,b1]),Vn d1 L,A9p (d1 &&& L) (over [c0,c1]),Vn e1 L,A9p (e1 &&& L) (over [d0,d1]),dE5 (Jr (D7e [a0,a1] [b0,b1] [c0,c1] [d0,d1] [e0,e1]) rfl)] Bq Tryz.func133 (by kernel_rfl) w
def A8z (a b:List UInt64):List UInt64:=Bs (Bs (Bs (Bs (Qh (F8 a 0) (F8 b 0)) (19*F8 a 1) (F8 b 4)) (19*F8 a 2) (F8 b 3)) (19*F8 a 3) (F8 b 2)) (19*F8 a 4) (F8 b 1)
@[simp, go_sem] theorem D4e (a b : List UInt64) : (A8z a b).length = 2 := rfl
def A9c (a b:List UInt64):List UInt64:=Bs (Bs (Bs (Bs (Qh (F8 a 0) (F8 b 1)) (F8 a 1) (F8 b 0)) (19*F8 a 2) (F8 b 4)) (19*F8 a 3) (F8 b 3)) (19*F8 a 4) (F8 b 2)
@[simp, go_sem] theorem D4l (a b : List UInt64) : (A9c a b).length = 2 := rfl
def B0y (a b:List UInt64):List UInt64:=Bs (Bs (Bs (Bs (Qh (F8 a 0) (F8 b 2)) (F8 a 1) (F8 b 1)) (F8 a 2) (F8 b 0)) (19*F8 a 3) (F8 b 4)) (19*F8 a 4) (F8 b 3)
@[simp, go_sem] theorem D4g (a b : List UInt64) : (B0y a b).length = 2 := rfl
def A9f (a b:List UInt64):List UInt64:=Bs (Bs (Bs (Bs (Qh (F8 a 0) (F8 b 3)) (F8 a 1) (F8 b 2)) (F8 a 2) (F8 b 1)) (F8 a 3) (F8 b 0)) (19*F8 a 4) (F8 b 4)
@[simp, go_sem] theorem D4j (a b : List UInt64) : (A9f a b).length = 2 := rfl
def A8x (a b:List UInt64):List UInt64:=Bs (Bs (Bs (Bs (Qh (F8 a 0) (F8 b 4)) (F8 a 1) (F8 b 3)) (F8 a 2) (F8 b 2)) (F8 a 3) (F8 b 1)) (F8 a 4) (F8 b 0)
@[simp, go_sem] theorem D4b (a b : List UInt64) : (A8x a b).length = 2 := rfl
def Q7 (a b:List UInt64):List UInt64:=Nn (A8z a b) (A9c a b) (B0y a b) (A9f a b) (A8x a b)
@[simp, go_sem] theorem E0u (a b : List UInt64) : (Q7 a b).length = 5 := rfl
def D9e (x y:UInt64):DC Tryz.prog:=dR 2 (B5j x y) rfl
def C8s (p:List UInt64) (hp:p.length=2) (x y:UInt64):DC Tryz.prog:=dR 2 (C9s p hp x y) rfl
def D9b:(p:List UInt64)→p.length=2→List (UInt64×UInt64)→List (DC Tryz.prog)
 | _,_,[]=>[]
 | p,hp,(x,y)::l=>C8s p hp x y::D9b (Bs p x y) rfl l
def A9v (x y:UInt64) (l:List (UInt64×UInt64)):List (DC Tryz.prog):=D9e x y::D9b (Qh x y) rfl l
theorem U3 (a b:List UInt64) (ha:a.length=5) (hb:b.length=5) (w:World):Calls Tryz.prog 102 #[H8 a,H8 b] w fun e w'=>e=.returned (H8 (Q7 a b))∧Below w.heap.size w w':=by
 revert a;refine B3p fun a0 a1 a2 a3 a4=>?_;revert b;refine B3p fun b0 b1 b2 b3 b4=>?_;let a:=[a0,a1,a2,a3,a4]
 let b:=[b0,b1,b2,b3,b4]
 let c:UInt64:=19
 exact U7 (g:=gE) 100 (avs a++avs b) ([A1e c a1,A1e c a2,A1e c a3,A1e c a4]++(A9v a0 b0 [(c*a1,b4),(c*a2,b3),(c*a3,b2),(c*a4,b1)]++(A9v a0 b1 [(a1,b0),(c*a2,b4),(c*a3,b3),(c*a4,b2)]++(A9v a0 b2 [(a1,b1),(a2,b0),(c*a3,b4),(c*a4,b3)] ++
  (A9v a0 b3 [(a1,b2),(a2,b1),(a3,b0),(c*a4,b4)]++(A9v a0 b4 [(a1,b3),(a2,b2),(a3,b1),(a4,b0)]++[dE5 (Xb (A8z a b) (A9c a b) (B0y a b) (A9f a b) (A8x a b) rfl rfl rfl rfl rfl)])))))) Bq Tryz.func102 (by kernel_rfl) w
def C0p (a:List UInt64):List UInt64:=Bs (Bs (Qh (F8 a 0) (F8 a 0)) (2*F8 a 1) (19*F8 a 4)) (2*F8 a 2) (19*F8 a 3)
@[simp, go_sem] theorem D5t (a : List UInt64) : (C0p a).length = 2 := rfl
def C1z (a:List UInt64):List UInt64:=Bs (Bs (Qh (2*F8 a 0) (F8 a 1)) (2*F8 a 2) (19*F8 a 4)) (F8 a 3) (19*F8 a 3)
@[simp, go_sem] theorem D8y (a : List UInt64) : (C1z a).length = 2 := rfl
def C1j (a:List UInt64):List UInt64:=Bs (Bs (Qh (2*F8 a 0) (F8 a 2)) (F8 a 1) (F8 a 1)) (2*F8 a 3) (19*F8 a 4)
@[simp, go_sem] theorem D7a (a : List UInt64) : (C1j a).length = 2 := rfl
def C1i (a:List UInt64):List UInt64:=Bs (Bs (Qh (2*F8 a 0) (F8 a 3)) (2*F8 a 1) (F8 a 2)) (F8 a 4) (19*F8 a 4)
@[simp, go_sem] theorem D8s (a : List UInt64) : (C1i a).length = 2 := rfl
def C2l (a:List UInt64):List UInt64:=Bs (Bs (Qh (2*F8 a 0) (F8 a 4)) (2*F8 a 1) (F8 a 3)) (F8 a 2) (F8 a 2)
@[simp, go_sem] theorem D6o (a : List UInt64) : (C2l a).length = 2 := rfl
def fsq (a:List UInt64):List UInt64:=Nn (C0p a) (C1z a) (C1j a) (C1i a) (C2l a)
@[simp, go_sem] theorem E1r (a : List UInt64) : (fsq a).length = 5 := rfl
set_option maxRecDepth 100000
theorem A1t (a:List UInt64) (ha:a.length=5) (w:World):Calls Tryz.prog 148 #[H8 a] w fun e w'=>e=.returned (H8 (fsq a))∧Below w.heap.size w w':=by
 revert a;refine B3p fun a0 a1 a2 a3 a4=>?_;let a:=[a0,a1,a2,a3,a4]
 let c:UInt64:=19
 let t:UInt64:=2
 exact U7 (g:=gE) 100 (avs a) ([A1e t a0,A1e t a1,A1e t a2,A1e c a3,A1e c a4]++(A9v a0 a0 [(t*a1,c*a4),(t*a2,c*a3)]++(A9v (t*a0) a1 [(t*a2,c*a4),(a3,c*a3)]++([D9e (t*a0) a2,C8s (Qh (t*a0) a2) rfl a1 a1,A1e t a3,C8s (Bs (Qh (t*a0) a2) a1 a1) rfl (t*a3) (c*a4)] ++
  (A9v (t*a0) a3 [(t*a1,a2),(a4,c*a4)]++(A9v (t*a0) a4 [(t*a1,a3),(a2,a2)]++[dE5 (Xb (C0p a) (C1z a) (C1j a) (C1i a) (C2l a) rfl rfl rfl rfl rfl)])))))) Bq Tryz.func148 (by kernel_rfl) w
end
section
variable {w W : World} {l : List (TypeId × List Value)} {t : TypeId} {cs : List Value}
theorem Nm (i : Nat) (h : W = O8 w l) (e : l[i]? = some (t, cs)) : Bk W (w.heap.size + i) t cs := h ▸ Nr _ w i _ _ e
theorem Um (h : W = O8 w l) (e : l[0]? = some (t, cs)) : Bk W w.heap.size t cs := h ▸ Nr _ w 0 _ _ e
theorem Rf (h : W = O8 w l) : Below w.heap.size w W := h ▸ Ou _ _
theorem ZL' (n : Nat) (h : W = O8 w l) (e : l.length = n) : w.heap.size + n ≤ W.heap.size := by rw [h, Mj, e]; exact Nat.le_refl _
theorem SL' (n : Nat) (h : W = O8 w l) (e : l.length = n) : W.heap.size = w.heap.size + n := by rw [h, Mj, e]
end
section
def F7u (a b:List UInt64) (j:Nat):UInt64:=F8 a j+F8 b j
def E9r (a b:List UInt64) (j:Nat):UInt64:=F8 a j+(9007199254740988-F8 b j)
def D5m (a b:List UInt64):List UInt64:=Lm (F7u a b) (F8 a) 5 5
def D6c (a b:List UInt64):List UInt64:=(Lm (E9r a b) (F8 a) 5 5).set 0 (E9r a b 0-72)
@[simp, go_sem] theorem D9y (a b : List UInt64) : (D5m a b).length = 5 := rfl
@[simp, go_sem] theorem E0c (a b : List UInt64) : (D6c a b).length = 5 := rfl
def Iw (a b:List UInt64):List UInt64:=Im (D5m a b)
def Jf (a b:List UInt64):List UInt64:=Im (D6c a b)
@[simp, go_sem] theorem E0e (a b : List UInt64) : (Iw a b).length = 5 := rfl
@[simp, go_sem] theorem E0i (a b : List UInt64) : (Jf a b).length = 5 := rfl
def Eb (v:UInt64):List UInt64:=[v &&& 2251799813685247,v >>> 51,0,0,0]
@[simp, go_sem] theorem D4i (v : UInt64) : (Eb v).length = 5 := rfl
def Hw:Nat→List UInt64→List UInt64
 | 0,a=>a
 | n+1,a=>fsq (Hw n a)
@[simp, go_sem] theorem A0p {a : List UInt64} (ha : a.length = 5) : ∀ n, (Hw n a).length = 5
 | 0=>ha
 | _+1=>rfl
set_option maxRecDepth 100000
theorem Gr (a b:List UInt64) (ha:a.length=5) (hb:b.length=5) (w:World):Calls Tryz.prog 127 #[H8 a,H8 b] w fun e w'=>e=.returned (H8 (Iw a b))∧Below w.heap.size w w':=by
 revert a;refine B3p fun a0 a1 a2 a3 a4=>?_;revert b;refine B3p fun b0 b1 b2 b3 b4=>?_;let a:=[a0,a1,a2,a3,a4]
 let b:=[b0,b1,b2,b3,b4]
 exact U7 (g:=gE) 100 (avs a++avs b) (((List.range 5).map fun i=>A9p (F8 a i) (F8 b i))++[dE5 (Jr (D5m a b) rfl)]) Bq Tryz.func127 (by kernel_rfl) w
theorem Fd (a b:List UInt64) (ha:a.length=5) (hb:b.length=5) (w:World):Calls Tryz.prog 128 #[H8 a,H8 b] w fun e w'=>e=.returned (H8 (Jf a b))∧Below w.heap.size w w':=by
 revert a;refine B3p fun a0 a1 a2 a3 a4=>?_;revert b;refine B3p fun b0 b1 b2 b3 b4=>?_;let a:=[a0,a1,a2,a3,a4]
 let b:=[b0,b1,b2,b3,b4]
 let M:UInt64:=9007199254740988
 exact U7 (g:=gE) 100 (avs a++avs b) (((List.range 5).flatMap fun i=>[E8r M (F8 b i),A9p (F8 a i) (M-F8 b i)])++[E8r (a0+(M-b0)) 72,dE5 (Jr (D6c a b) rfl)]) Bq Tryz.func128 (by kernel_rfl) w
theorem Li (v:UInt64) (w:World):Calls Tryz.prog 124 #[.int .u64 (F0 v)] w fun e w'=>e=.returned (H8 (Eb v))∧Below w.heap.size w w':=U7 (g:=gE) 100 (avs [v]) [Vn v 2251799813685247,C8b v .u64 51 (by decide)] Bq Tryz.func124 (by kernel_rfl) w
theorem Ru (a:List UInt64) (ha:a.length=5) (n:Nat) (hn:n≤1000000) (w:World):Calls Tryz.prog 130 #[H8 a,.int .i64 (n:Int)] w fun e w'=>e=.returned (H8 (Hw n a))∧Below w.heap.size w w':=by
 obtain⟨W0,aA⟩:=E9 ((w.alloc (Obj.cells (C9 a).toArray 138)).alloc (Obj.cells (C9 (M1 5)).toArray 138));have hL:W0=O8 w [(138,C9 a),(138,C9 (M1 5))]:=aA;have B0:=Rf hL;have A0:=Um hL rfl;have R0:=Nm 1 hL rfl;clear hL;go_enter Tryz.func130,Tryz.ntmps130;go_wp2_with fail;rw[←aA];clear aA;go_loopw [6] (fun t wr=>∃i:Nat,i≤n∧t=.int .i64 (i:Int)∧Bk wr w.heap.size 138 (C9 (Hw i a))∧Bk wr (w.heap.size+1) 138 (C9 (M1 5))∧Below w.heap.size w wr) (fun t _=>n-(intOf t).toNat)
 case atStart=>exact ⟨0,by omega,rfl,A0,R0,B0⟩
 case round=>
  clear A0 R0 B0;obtain⟨i,hi,rfl,K,R,B⟩:=hrel;have hl:=A0p ha i;have rk:=K.row64 hl;by_cases hlt:i<n
  ·go_wp2_with fail;refine (A1t (Hw i a) hl wr).mono ?_;rintro e w1 ⟨rfl,b1⟩;have K1:=K.bl b1;have R1:=R.bl b1;have B1:=Q5 B b1;have aB:P7 w1 ⟨w.heap.size,0,none⟩ 5=true:=K1.can (by simp[hl]);go_wp2_with fail;go_roundw;case rel=>exact ⟨i+1,by omega,by go_num,K1.puts (by simp[hl]),R1.putFar (by simp) _,C0 B1 (by simp) _⟩
   case measure=>simp[intOf];omega
  ·obtain rfl:i=n:=by omega
   have aB:=Mh 5 R (by simp);go_wp2_with fail;refine bodyPost_ret (C5 rfl _ _ _ _ _ _ rfl (R.puts (vs:=C9 (Hw i a)) (by simp[hl])) Ho rfl (by simp[Pp,hl])) rfl ⟨rfl,C0 B (by simp) _⟩
end
theorem Bk.row8 {w:World} {g:Nat} {t:TypeId} {l:List UInt8} {n:Nat} (h:Bk w g t (c8 l)) (hl:l.length=n):C8 w ⟨g,0,none⟩ n=some (c8 l):=by have:=h.rows;rwa [E4,hl]at this
def A4g (a:List UInt64):List UInt64:=Q7 (Hw 2 (fsq a)) a
def Kj (a:List UInt64):List UInt64:=Q7 (A4g a) (fsq a)
def f5 (a:List UInt64):List UInt64:=Q7 (fsq (Kj a)) (A4g a)
def f10 (a:List UInt64):List UInt64:=Q7 (Hw 5 (f5 a)) (f5 a)
def f20 (a:List UInt64):List UInt64:=Q7 (Hw 10 (f10 a)) (f10 a)
def f50 (a:List UInt64):List UInt64:=Q7 (Hw 10 (Q7 (Hw 20 (f20 a)) (f20 a))) (f10 a)
def A6h (a:List UInt64):List UInt64:=Q7 (Hw 50 (f50 a)) (f50 a)
def Vd (a:List UInt64):List UInt64:=Q7 (Hw 50 (Q7 (Hw 100 (A6h a)) (A6h a))) (f50 a)
def Yt (a:List UInt64):List UInt64:=Q7 (Hw 5 (Vd a)) (Kj a)
@[simp, go_sem] theorem D5z (a : List UInt64) : (A4g a).length = 5 := rfl
@[simp, go_sem] theorem D0e (a : List UInt64) : (Kj a).length = 5 := rfl
@[simp, go_sem] theorem E5h (a : List UInt64) : (f5 a).length = 5 := rfl
@[simp, go_sem] theorem E3i (a : List UInt64) : (f10 a).length = 5 := rfl
@[simp, go_sem] theorem E1s (a : List UInt64) : (f20 a).length = 5 := rfl
@[simp, go_sem] theorem E2k (a : List UInt64) : (f50 a).length = 5 := rfl
@[simp, go_sem] theorem D9c (a : List UInt64) : (A6h a).length = 5 := rfl
@[simp, go_sem] theorem D7l (a : List UInt64) : (Vd a).length = 5 := rfl
@[simp, go_sem] theorem E0d (a : List UInt64) : (Yt a).length = 5 := rfl
def Kc (f:Nat→UInt8) (n i:Nat):List UInt8:=(List.range n).map fun j=>if j<i then f j else 0
@[simp, go_sem] theorem Ji (f : Nat → UInt8) (n i : Nat) : (Kc f n i).length = n := by simp [Kc]
theorem A8v {f:Nat→UInt8} {n i:Nat} (hi:i<n) {x:UInt8} (hx:x=f i):(Kc f n i).set i x=Kc f n (i+1):=by
 subst hx;apply List.ext_getElem?;intro j;unfold Kc;rw[List.getElem?_set];by_cases h:i=j
 ·subst h;rw[if_pos rfl,if_pos (by simpa using hi),List.getElem?_map,List.getElem?_range hi];simp
 ·rw[if_neg h,List.getElem?_map,List.getElem?_map];by_cases hj:j<n
  ·rw[List.getElem?_range hj];simp only[Option.map_some];have:(j<i+1)↔(j<i):=by omega
   simp[this]
  ·rw[List.getElem?_eq_none (by simpa using hj)];rfl
theorem Zs {f:Nat→UInt8} {n:Nat}:Kc f n 0=z8 n:=by
 apply List.ext_getElem?;intro j;unfold Kc z8;rw[List.getElem?_map,List.getElem?_replicate];by_cases hj:j<n
 ·rw[List.getElem?_range hj,if_pos hj];rfl
 ·rw[List.getElem?_eq_none (by simpa using hj),if_neg hj];rfl
def A5g (ws:List UInt64) (j:Nat):UInt8:=(F8 ws (j / 8) >>> UInt64.ofNat (8*(j % 8))).toUInt8
def Tp (ws:List UInt64) (n:Nat):List UInt8:=Kc (A5g ws) n n
@[simp, go_sem] theorem Sf (ws : List UInt64) (n : Nat) : (Tp ws n).length = n := Ji _ _ _
def hq (b:List UInt64):Nat→UInt64
 | 0=>(F8 b 0+19) >>> (51:UInt64)
 | i+1=>(F8 b (i+1)+hq b i) >>> (51:UInt64)
def hs (b:List UInt64):Nat→List UInt64
 | 0=>b.set 0 (F8 b 0+19*hq b 4)
 | i+1=>((hs b i).set (i+1) (F8 (hs b i) (i+1)+F8 (hs b i) i >>> (51:UInt64))).set i (F8 (hs b i) i &&& (2251799813685247:UInt64))
theorem A7g {b:List UInt64} (hb:b.length=5):∀i,(hs b i).length=5
 | 0=>by simp[hs,hb]
 | i+1=>by simp[hs,A7g hb i]
def C3c (b:List UInt64):List UInt64:=(hs b 4).set 4 (F8 (hs b 4) 4 &&& (2251799813685247:UInt64))
def Fj (c:List UInt64):List UInt64:=[F8 c 0 ||| F8 c 1 <<< (51:UInt64),F8 c 1 >>> (13:UInt64) ||| F8 c 2 <<< (38:UInt64),F8 c 2 >>> (26:UInt64) ||| F8 c 3 <<< (25:UInt64),F8 c 3 >>> (39:UInt64) ||| F8 c 4 <<< (12:UInt64)]
@[simp, go_sem] theorem D4f (c : List UInt64) : (Fj c).length = 4 := rfl
def Q3 (a:List UInt64):List UInt8:=Tp (Fj (C3c (Im (Im a)))) 32
@[simp, go_sem] theorem Gk (a : List UInt64) : (Q3 a).length = 32 := Sf _ _
theorem Le (a:List UInt64) (ha:a.length=5) (w:World):Calls Tryz.prog 103 #[H8 a] w fun e w'=>e=.returned (A8 (Q3 a))∧Below w.heap.size w w':=by
 obtain⟨W0,aH⟩:=E9 ((w.alloc (Obj.cells (C9 a).toArray 138)).alloc (Obj.cells (c8 (z8 32)).toArray 23));have hL:W0=O8 w [(138,C9 a),(23,c8 (z8 32))]:=aH;have B0:=Rf hL;have A0:=Um hL rfl;have R0:=Nm 1 hL rfl;have z0:=ZL' 2 hL rfl;clear hL;have ra:=A0.row64 ha;rw[aH]at ra;go_enter Tryz.func103,Tryz.ntmps103;go_wp2_with fail;rw[←aH];clear aH ra;refine (Jr a ha W0).mono ?_;rintro e w1 ⟨rfl,b1⟩;go_wp2_with fail;refine (Jr (Im a) rfl w1).mono ?_;rintro e w2 ⟨rfl,b2⟩;have aF:=Q5 b1 b2;have A2:=A0.bl aF;have R2:=R0.bl aF;have B2:=Q5 B0 aF;have z2:=Nat.le_trans z0 aF.size;obtain⟨b,hb⟩:=E9 (Im (Im a));have aK:b.length=5:=by rw[hb];rfl
 have HB:Hid (Q3 a=Tp (Fj (C3c b)) 32):=Lib.hid (by rw[hb];rfl);rw[←hb];clear hb A0 R0 B0 b1 b2 aF z0;have aG:P7 w2 ⟨w.heap.size,0,none⟩ 5=true:=A2.can (by simp[ha]);obtain⟨W3,aC⟩:=E9 (C4 w2 ⟨w.heap.size,0,none⟩ (C9 b));have A3:Bk W3 w.heap.size 138 (C9 b):=by rw[aC];exact A2.puts (by simp[ha,aK])
 have R3:Bk W3 (w.heap.size+1) 23 (c8 (z8 32)):=by rw[aC];exact R2.putFar (by simp) _
 have B3:Below w.heap.size w W3:=by rw[aC];exact C0 B2 (Nat.le_refl _) _
 have z3:w.heap.size+2≤W3.heap.size:=by rw[aC];have:=(C0 (Below.refl w.heap.size w2) (a:=⟨w.heap.size,0,none⟩) (Nat.le_refl _) (C9 b)).size;omega
 have k0:=A3.at_ (J6 (l:=b) (i:=0) (by omega));rw[aC]at k0;clear A2 R2 B2 z2;go_wp2_with fail;rw[←aC];clear aC k0 aG;go_loop [4,3] (fun t q=>∃i:Nat,i<5∧t=.int .i64 ((i:Int)+1)∧q=.int .u64 (F0 (hq b i))) (fun t _=>5-(intOf t).toNat)
 case atStart=>exact ⟨0,by omega,rfl,rfl⟩
 case round=>
  obtain⟨i,hi,rfl,rfl⟩:=hrel;by_cases hlt:i+1<5
  ·have k0:=A3.at_ (J6 (l:=b) (i:=i+1) (by omega));have e1:(i:Int)+1<5:=by omega
   go_wp2_with fail;go_round;case rel=>exact ⟨i+1,hlt,by go_num,rfl⟩
   case measure=>simp[intOf];omega
  ·obtain rfl:i=4:=by omega
   have k0:=A3.at_ (J6 (l:=b) (i:=0) (by omega));have f0:=A3.frozen 0;obtain⟨W4,aD⟩:=E9 (W3.setCell ⟨w.heap.size,0,none⟩ (.int .u64 (F0 (F8 b 0+19*hq b 4))));have A4:Bk W4 w.heap.size 138 (C9 (hs b 0)):=by have:=A3.set_ 0 (.int .u64 (F0 (F8 b 0+19*hq b 4)));rw[Cz]at this;rw[aD];exact this
   have R4:Bk W4 (w.heap.size+1) 23 (c8 (z8 32)):=by rw[aD];exact R3.far (by simp) _
   have B4:Below w.heap.size w W4:=by rw[aD];exact B3.setCell (by simp) _
   have z4:w.heap.size+2≤W4.heap.size:=by rw[aD];simpa [World.setCell] using z3
   have e5:(((4:Nat):Int)+1)=5:=rfl;rw[e5];clear A3 R3 B3 z3 e5;go_wp2_with fail;rw[←aD];clear aD k0 f0;go_loopw [36] (fun t wr=>∃i:Nat,i≤4∧t=.int .i64 (i:Int)∧Bk wr w.heap.size 138 (C9 (hs b i))∧Bk wr (w.heap.size+1) 23 (c8 (z8 32))∧Below w.heap.size w wr∧w.heap.size+2≤wr.heap.size) (fun t _=>4-(intOf t).toNat)
   case atStart=>exact ⟨0,by omega,rfl,A4,R4,B4,z4⟩
   case round=>
    clear A4 R4 B4 z4;obtain⟨i,hi,rfl,A,R,B,z⟩:=hrel;have hl:=A7g aK i;by_cases hlt:i<4
    ·have k0:=A.at_ (J6 (l:=hs b i) (i:=i+1) (by omega));have k1:=A.at_ (J6 (l:=hs b i) (i:=i) (by omega));have f0:=A.frozen (i+1);have A5:=A.set_ (i+1) (.int .u64 (F0 (F8 (hs b i) (i+1)+F8 (hs b i) i >>> (51:UInt64))));have R5:=R.far (p:=⟨w.heap.size,i+1,none⟩) (by simp) (.int .u64 (F0 (F8 (hs b i) (i+1)+F8 (hs b i) i >>> (51:UInt64))));have k5:=A5.at_ (i:=i) (u:=.int .u64 (F0 (F8 (hs b i) i))) (by rw[List.getElem?_set_ne (by omega)];exact J6 (by omega));have f5:=A5.frozen i;have A6:=A5.set_ i (.int .u64 (F0 (F8 (hs b i) i &&& (2251799813685247:UInt64))));rw[Cz,Cz]at A6;have R6:=R5.far (p:=⟨w.heap.size,i,none⟩) (by simp) (.int .u64 (F0 (F8 (hs b i) i &&& (2251799813685247:UInt64))));have e1:(i:Int)+1<5:=by omega
     clear A R A5 R5;go_wp2_with fail;refine Af 13 (by kernel_rfl) (by kernel_rfl) ?_;simp only[List.take_succ_cons,List.take_zero,List.drop_succ_cons,List.drop_zero];repeat (go_big_quiet_step (fail))
     refine wpQuiet_nil ?_;rintro w6 ⟨aI,rfl⟩;have k6:((wr.drewN aI).setCell ⟨w.heap.size,i+1,none⟩ (.int .u64 (F0 (F8 (hs b i) (i+1)+F8 (hs b i) i >>> (51:UInt64))))).cell? ⟨w.heap.size,i,none⟩=some (.int .u64 (F0 (F8 (hs b i) i))):=k5;have f6:((wr.drewN aI).setCell ⟨w.heap.size,i+1,none⟩ (.int .u64 (F0 (F8 (hs b i) (i+1)+F8 (hs b i) i >>> (51:UInt64))))).frozen? ⟨w.heap.size,i,none⟩=false:=f5;clear k5 f5;go_wp2_with fail;go_roundw;case rel=>exact ⟨i+1,by omega,by go_num,A6,R6,((K9 B aI).setCell (by simp) _).setCell (by simp) _,by simpa [World.setCell] using z⟩
     case measure=>simp[intOf];omega
    ·obtain rfl:i=4:=by omega
     have k0:=A.at_ (J6 (l:=hs b 4) (i:=4) (by omega));have f0:=A.frozen 4;have e5:((4:Nat):Int)=4:=rfl;rw[e5];obtain⟨W5,aB⟩:=E9 (wr.setCell ⟨w.heap.size,4,none⟩ (.int .u64 (F0 (F8 (hs b 4) 4 &&& (2251799813685247:UInt64)))));have A5:Bk W5 w.heap.size 138 (C9 (C3c b)):=by have:=A.set_ 4 (.int .u64 (F0 (F8 (hs b 4) 4 &&& (2251799813685247:UInt64))));rw[Cz]at this;rw[aB];exact this
     have R5:Bk W5 (w.heap.size+1) 23 (c8 (z8 32)):=by rw[aB];exact R.far (by simp) _
     have B5:Below w.heap.size w W5:=by rw[aB];exact B.setCell (by simp) _
     have z5:w.heap.size+2≤W5.heap.size:=by rw[aB];simpa [World.setCell] using z
     have aN:(C3c b).length=5:=by simp[C3c,hl]
     obtain⟨cc,aJ⟩:=E9 (C3c b);rw[←aJ]at A5 aN;have HC:Hid (Q3 a=Tp (Fj cc) 32):=Lib.hid (by rw[HB.out,aJ]);have c0:=A5.at_ (J6 (l:=cc) (i:=0) (by omega));have c1:=A5.at_ (J6 (l:=cc) (i:=1) (by omega));have c2:=A5.at_ (J6 (l:=cc) (i:=2) (by omega));have c3:=A5.at_ (J6 (l:=cc) (i:=3) (by omega));have c4:=A5.at_ (J6 (l:=cc) (i:=4) (by omega));obtain⟨W6,aE⟩:=E9 ((C4 (W5.alloc (Obj.cells (C9 (M1 4)).toArray 182)) ⟨W5.heap.size,0,none⟩ (C9 (Fj cc))).alloc (Obj.cells (c8 (z8 32)).toArray 23));have D6:Bk W6 W5.heap.size 182 (C9 (Fj cc)):=by rw[aE];exact (Bk.fresh64 W5 _ (by simp)).alloc _
     have b6:Below W5.heap.size W5 W6:=by rw[aE];exact (C0 (Bh _ _) (Nat.le_refl _) _).alloc (by simp) _
     have O6:Bk W6 (W5.heap.size+1) 23 (c8 (z8 32)):=by rw[aE];simpa using Bk.new (C4 (W5.alloc (Obj.cells (C9 (M1 4)).toArray 182)) ⟨W5.heap.size,0,none⟩ (C9 (Fj cc))) 23 (c8 (z8 32))
     have aA:=A0n W5 182 (M1 4) 4 _ (by simp) rfl;have R6:=R5.bl b6;have B6:=Q5 B5 b6;have aL:W5.heap.size=wr.heap.size:=by rw[aB];simp[World.setCell]
     rw[aL]at D6 O6 aA aE;obtain⟨p,hp⟩:=E9 (wr.heap.size);have zp:w.heap.size+2≤p:=by rw[hp];exact z
     rw[aB]at c0 c1 c2 c3 c4 aA;clear A R B z A5 R5 B5 z5 b6 aJ aL;go_wp2_with fail;rw[show [F8 cc 0 ||| F8 cc 1 <<< (51:UInt64),F8 cc 1 >>> (13:UInt64) ||| F8 cc 2 <<< (38:UInt64),F8 cc 2 >>> (26:UInt64) ||| F8 cc 3 <<< (25:UInt64),F8 cc 3 >>> (39:UInt64) ||| F8 cc 4 <<< (12:UInt64)]=Fj cc from rfl];rw[←aB,←aE];rw[←hp]at D6 O6 ⊢;clear aB aE hp c0 c1 c2 c3 c4 aA k0 f0 e5;rw[←Zs (f:=A5g (Fj cc))]at O6;go_loopw [102] (fun t wr=>∃i:Nat,i≤32∧t=.int .i64 (i:Int)∧Bk wr p 182 (C9 (Fj cc))∧Bk wr (p+1) 23 (c8 (Kc (A5g (Fj cc)) 32 i))∧Bk wr (w.heap.size+1) 23 (c8 (z8 32))∧Below w.heap.size w wr) (fun t _=>32-(intOf t).toNat)
     case atStart=>exact ⟨0,by omega,rfl,D6,O6,R6,B6⟩
     case round=>
      clear D6 O6 R6 B6;obtain⟨i,hi,rfl,D,O,R,B⟩:=hrel;by_cases hlt:i<32
      ·have aP:(i:Int) / 8=((i / 8:Nat):Int):=by omega
       have aQ:(i:Int) % 8=((i % 8:Nat):Int):=by omega
       have hx:A5g (Fj cc) i=(F8 (Fj cc) (i / 8) >>> UInt64.ofNat (8*(i % 8))).toUInt8:=rfl;have d0:=D.at_ (J6 (l:=Fj cc) (i:=i / 8) (by simp;omega));have o0:=O.at_ (Eu (l:=Kc (A5g (Fj cc)) 32 i) (i:=i) (by simpa using hlt));have f0:=O.frozen i;have aR:i / 8<4:=by omega
       have aS:i % 8<8:=by omega
       have HX:=Lib.hid hx;have O3:=O.set_ i (.int .u8 (n8 (F8 (Fj cc) (i / 8) >>> UInt64.ofNat (8*(i % 8))).toUInt8));rw[Gx,A8v (f:=A5g (Fj cc)) hlt HX.out.symm]at O3;clear hx;generalize i / 8=qq at *;generalize i % 8=rr at *;obtain⟨ss,aM⟩:=E9 (8*rr);have h8:8*(rr:Int)=(ss:Int):=by omega
       have aO:ss<64:=by omega
       rw[←aM]at O3;clear HX aM;go_wp2_with fail;go_roundw;case rel=>exact ⟨i+1,by omega,by go_num,D.far (by simp) _,O3,R.far (by simp;omega) _,B.setCell (by simp;omega) _⟩
       case measure=>simp[intOf];omega
      ·obtain rfl:i=32:=by omega
       have hO:Bk wr (p+1) 23 (c8 (Tp (Fj cc) 32)):=O;rw[←HC.out]at hO;have ro:=hO.row8 (n:=32) (by simp);have aG:=Mh 32 R (by simp);have e5:((32:Nat):Int)=32:=rfl;rw[e5];clear e5 O hO D;go_wp2_with fail;refine bodyPost_ret (C5 rfl _ _ _ _ _ _ rfl (R.puts (vs:=c8 (Q3 a)) (by simp)) Tryz.underlying23 rfl (by simp[J9])) rfl ⟨rfl,C0 B (by simp) _⟩
def A2v (a:List UInt64):Bool:=g8 (Q3 a) 0 &&& 1==1
theorem Nl (a:List UInt64) (ha:a.length=5) (w:World):Calls Tryz.prog 104 #[H8 a] w fun e w'=>e=.returned (.bool (A2v a))∧Below w.heap.size w w':=by
 obtain⟨W0,aA⟩:=E9 (w.alloc (Obj.cells (C9 a).toArray 138));have B0:=BA' aA;have A0:=KN' aA;have ra:=A0.row64 ha;rw[aA]at ra;have hl:(Q3 a).length=32:=by simp
 have hb:(n8 (g8 (Q3 a) 0 &&& 1)==1)=A2v a:=Ov (x:=g8 (Q3 a) 0 &&& 1) (y:=1);go_enter Tryz.func104,Tryz.ntmps104;go_wp2_with fail;rw[←aA];clear aA ra;refine (Le a ha W0).mono ?_;rintro e w1 ⟨rfl,b1⟩;go_wp2_with fail;go_ret;exact ⟨rfl,C2 B0 b1 B0.size⟩
end Go.Proofs.YtlegpkdighoflaaGreat
