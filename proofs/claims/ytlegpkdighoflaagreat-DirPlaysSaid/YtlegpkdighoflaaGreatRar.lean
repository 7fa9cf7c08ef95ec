/- A part of the proof of DirPlays. -/
import Derived.LoopN
import Derived.Test.YtlegpkdighoflaaGreatRap
import Derived.Test.YtlegpkdighoflaaGreatRaq
set_option linter.unusedVariables false
set_option linter.unusedSimpArgs false
set_option maxRecDepth 100000
set_option maxHeartbeats 40000000
namespace Go.Proofs.YtlegpkdighoflaaGreat
open Go Go.RowKit Sh
section
inductive XK where
 | nrm
 | ext (id:Nat)
 | ret
def XK.ex:XK→Exit
 | .nrm=>.normal
 | .ext id=>.exit id
 | .ret=>.ret
abbrev Out := XK × St × Nat × List Rq
def loopRun (body:St→Nat→Option Out):Nat→St→Nat→Option Out
 | 0,_,_=>none
 | m+1,s,na=>match body s na with
  | some (.nrm,s1,n1,q1)=>match loopRun body m s1 n1 with
   | some (k,s2,n2,q2)=>some (k,s2,n2,q1++q2)
   | none=>none
  | r=>r
def runC (P:Program) (g:TypeId→Option (List Nat)) (ρ:List Av):Nat→Code→St→Nat→Option Out
 | 0,_,_,_=>none
 | n+1,c,s,na=>match c with
  | .skip | .label _=>some (.nrm,s,na,[])
  | .ret=>some (.ret,s,na,[])
  | .exit id=>some (.ext id,s,na,[])
  | .region _ ops _=>match runR P g ρ ops.toList ops.toList s na with
   | some (evs,s',na')=>if regB ops.toList s evs=true then some (.nrm,s',na',evs.filterMap (·.rq)) else none
   | none=>none
  | .seq x y=>match runC P g ρ n x s na with
   | some (.nrm,s1,n1,q1)=>match runC P g ρ n y s1 n1 with
    | some (k,s2,n2,q2)=>some (k,s2,n2,q1++q2)
    | none=>none
   | r=>r
  | .cond c x y=>match (opv s c).bind (boolOf ρ) with
   | some b=>runC P g ρ n (if b then x else y) s na
   | none=>none
  | .block id b=>match runC P g ρ n b s na with
   | some (.ext i,s1,n1,q)=>some (if i=id then .nrm else .ext i,s1,n1,q)
   | r=>r
  | .loop b=>loopRun (runC P g ρ n b) n s na
  | _=>none
section
variable {P : Program} {g : TypeId → Option (List Nat)} {ρ : List Av}
def Sound (P:Program) (ρ:List Av) (c:Code) (s:St) (o:Out):Prop:=
 (∀q∈o.2.2.2,q.Ok P ρ)→∀(μ:Nat→Nat) (a:Act) (w:World) (Q:Exit→Act→World→Prop),Rel ρ s μ a w→
  (∀μ' a' w',Rel ρ o.2.1 μ' a' w'→Goes s μ w o.2.1 μ' w'→Q o.1.ex a' w')→c.wp P Q a w
theorem opv_val {s:St} {c:Operand} {x:SV} {μ:Nat→Nat} {a:Act} {w:World} (hR:Rel ρ s μ a w) (h:opv s c=some x):a.eval c=x.val ρ μ:=by
 cases c with
 | tmp t=>exact hR.tm t x h
 | const v=>exact (constV_val h).symm
 | global _=>cases h
 | func _=>cases h
theorem loop_sound {c:Code} {body:St→Nat→Option Out} (hb:∀s na o,body s na=some o→Sound P ρ c s o):∀(m:Nat) (s:St) (na:Nat) (o:Out),loopRun body m s na=some o→
 (∀q∈o.2.2.2,q.Ok P ρ)→∀(μ:Nat→Nat) (a:Act) (w:World) (Q:Exit→Act→World→Prop),Rel ρ s μ a w→
 (∀μ' a' w',Rel ρ o.2.1 μ' a' w'→Goes s μ w o.2.1 μ' w'→Q o.1.ex a' w')→Code.rounds P c Q m a w
 | 0,s,na,o,h=>by cases h
 | m+1,s,na,o,h=>by
  intro hq μ a w Q hR hQ;rw[rounds_succ];unfold loopRun at h;split at h
  ·rename_i s1 n1 q1 h1
   split at h
   ·rename_i k s2 n2 q2 h2
    cases h;refine hb s na _ h1 (fun q hm=>hq q (by simp[hm])) μ a w _ hR fun μ' a' w' hR' hG=>?_;show Code.rounds P c Q m a' w';exact loop_sound hb m s1 n1 _ h2 (fun q hm=>hq q (by simp[hm])) μ' a' w' Q hR' fun μ2 a2 w2 hR2 hG2=>hQ μ2 a2 w2 hR2 (hG.trans hG2)
   ·cases h
  ·rename_i hne
   obtain⟨k,s1,n1,q1⟩:=o;refine hb s na _ h hq μ a w _ hR fun μ' a' w' hR' hG=>?_;cases k with
   | nrm=>exact absurd h (hne s1 n1 q1)
   | ext id=>exact hQ μ' a' w' hR' hG
   | ret=>exact hQ μ' a' w' hR' hG
theorem runC_sound (hm:P.follows .mixedOrders=true):∀(n:Nat) (c:Code) (s:St) (na:Nat) (o:Out),runC P g ρ n c s na=some o→Sound P ρ c s o
 | 0,c,s,na,o,h=>by cases h
 | n+1,c,s,na,o,h=>by
  intro hq μ a w Q hR hQ;cases c<;>simp only[runC]at h;case skip=>cases h;exact wp_skip (hQ μ a w hR (Goes.refl _ _ _))
  case label l=>cases h;exact wp_label (hQ μ a w hR (Goes.refl _ _ _))
  case ret=>cases h;exact wp_ret (hQ μ a w hR (Goes.refl _ _ _))
  case exit id=>cases h;exact wp_exit (hQ μ a w hR (Goes.refl _ _ _))
  case region id ops draw=>
   split at h
   ·rename_i evs s' na' hrun
    split at h
    ·rename_i hreg
     cases h;have h1:=sx_region (id:=id) (draw:=draw) (Q:=Q) hm hrun hreg (fun ev hev q hqe=>hq q (List.mem_filterMap.2 ⟨ev,hev,hqe⟩)) hR fun μ' a' w' hR' hG=>hQ μ' a' w' hR' hG;simpa using h1
    ·cases h
   ·cases h
  case seq x y=>
   split at h
   ·rename_i s1 n1 q1 h1
    split at h
    ·rename_i k s2 n2 q2 h2
     cases h;refine wp_seq ?_;refine runC_sound hm n x s na _ h1 (fun q hmq=>hq q (by simp[hmq])) μ a w _ hR fun μ' a' w' hR' hG=>?_;show y.wp P Q a' w';exact runC_sound hm n y s1 n1 _ h2 (fun q hmq=>hq q (by simp[hmq])) μ' a' w' Q hR' fun μ2 a2 w2 hR2 hG2=>hQ μ2 a2 w2 hR2 (hG.trans hG2)
    ·cases h
   ·rename_i hne
    obtain⟨k,s1,n1,q1⟩:=o;refine wp_seq ?_;refine runC_sound hm n x s na _ h hq μ a w _ hR fun μ' a' w' hR' hG=>?_;cases k with
    | nrm=>exact absurd h (hne s1 n1 q1)
    | ext id=>exact hQ μ' a' w' hR' hG
    | ret=>exact hQ μ' a' w' hR' hG
  case cond c x y=>
   split at h
   ·rename_i b hb
    cases hc:opv s c with
    | none=>rw[hc]at hb;cases hb
    | some sc=>
     rw[hc]at hb;exact wp_cond ((opv_val hR hc).trans (boolOf_val hb)) (runC_sound hm n _ s na o h hq μ a w Q hR hQ)
   ·cases h
  case block id b=>
   refine wp_block ?_;split at h
   ·rename_i i s1 n1 q1 h1
    cases h;refine runC_sound hm n b s na _ h1 hq μ a w _ hR fun μ' a' w' hR' hG=>?_;have h2:=hQ μ' a' w' hR' hG;show Exit.inBlock id Q (.exit i) a' w';unfold Exit.inBlock;simp only;split
    ·rename_i h3;rw[if_pos h3]at h2;exact h2
    ·rename_i h3;rw[if_neg h3]at h2;exact h2
   ·rename_i hne
    obtain⟨k,s1,n1,q1⟩:=o;refine runC_sound hm n b s na _ h hq μ a w _ hR fun μ' a' w' hR' hG=>?_;cases k with
    | nrm=>exact hQ μ' a' w' hR' hG
    | ext i=>exact absurd h (hne i s1 n1 q1)
    | ret=>exact hQ μ' a' w' hR' hG
  case loop b=>exact wp_loop_rounds n (loop_sound (fun s na o h=>runC_sound hm n b s na o h) n s na o h hq μ a w Q hR hQ)
  all_goals (cases h)
end
end
section
def resOne (P:Program) (s:St):ResultVar→Option (Bool×List Sg)
 | .tmp t=>match s.σ[t]? with
  | some (.v a l)=>some (a,l)
  | _=>none
 | .cell t T=>do
  let (b,f) ←(s.σ[t]?).bind ptrOf
  let (_,cs) ←s.blk b
  let n ←szB P T
  let a ←aggB P T
  let l ←cutL cs f n
  if (!a&&l.length != 1)||n==0||(!a&&n != 1) then none else some (a,l)
def resV (P:Program) (s:St):List ResultVar→Option SV
 | []=>some (.tup [])
 | [r]=>(resOne P s r).map fun x=>.v x.1 x.2
 | [r1,r2]=>do let x ←resOne P s r1;let y ←resOne P s r2;some (.tup [x,y])
 | [r1,r2,r3]=>do let x ←resOne P s r1;let y ←resOne P s r2;let z ←resOne P s r3;some (.tup [x,y,z])
 | _=>none
def undefs (σ:List SV) (n:Nat):St:=⟨σ++List.replicate (n-σ.length) (.v false [.c undef]),[]⟩
def outF (P:Program) (g:TypeId→Option (List Nat)) (fuel:Nat) (fn:Func) (ρ:List Av):Option (Array Value×List Eqn×Value):=
 match fn.body,shapes P g 0 fn.params.toList with
 | some c,some (ps,na)=>match runC P g ρ fuel c (undefs (ps.map fun x=>.v x.1 x.2) fn.ntmps) na with
  | some (.ext _,_,_,_)=>none
  | some (_,s',_,qs)=>match resV P s' fn.results.toList with
   | some r=>if r.okn (fun _=>false)=true then some ((ps.map fun x=>cv ρ id x.1 x.2).toArray,qs.map (Rq.eqn ρ),r.val ρ id) else none
   | none=>none
  | none=>none
 | _,_=>none
def resF (tmps:Array Value):ResultVar→Sem Value
 | .tmp t=>pure (tmps.getD t undef)
 | .cell b t=>do loadVar t (←asAddr (tmps.getD b undef))
section
variable {P : Program} {g : TypeId → Option (List Nat)} {ρ : List Av}
theorem results_eq (fn:Func) (tmps:Array Value):results fn tmps=(do let vs ←fn.results.mapM (resF tmps);pure (if h:vs.size=1 then vs[0] else .tuple vs)):=by
 unfold results;congr 1
theorem resOne_run {s:St} {μ:Nat→Nat} {a:Act} {w:World} {r:ResultVar} {x:Bool×List Sg} (hR:Rel ρ s μ a w) (h:resOne P s r=some x) :
 (resF a.tmps r).run P w=.ok (cv ρ μ x.1 x.2) w:=by
 cases r with
 | tmp t=>
  simp only[resOne]at h;split at h
  ·rename_i ag l hx
   cases h;have:=hR.tm t _ hx;show Result.ok (a.tmps.getD t undef) w=_;rw[this];rfl
  ·cases h
 | cell t T=>
  simp only[resOne,bind,Option.bind]at h;cases hx:s.σ[t]? with
  | none=>rw[hx]at h;cases h
  | some y=>
   rw[hx]at h;simp only at h;cases hp:ptrOf y with
   | none=>rw[hp]at h;cases h
   | some bf=>
    obtain⟨b,f⟩:=bf;rw[hp]at h;simp only at h;cases hb:s.blk b with
    | none=>rw[hb]at h;cases h
    | some Tc=>
     obtain⟨T',cs⟩:=Tc;rw[hb]at h;simp only at h;cases hs:szB P T with
     | none=>rw[hs]at h;cases h
     | some n=>
      rw[hs]at h;simp only at h;cases ha:aggB P T with
      | none=>rw[ha]at h;cases h
      | some ag=>
       rw[ha]at h;simp only at h;cases hc:cutL cs f n with
       | none=>rw[hc]at h;cases h
       | some l=>
        rw[hc]at h;simp only at h;split at h
        ·cases h
        ·rename_i hcond
         cases h;have h1:=run_loadB (P:=P) (w:=w) (t:=T) (hR.bl b T' cs hb) hs ha hc (by intro h0;subst h0;simp at hcond) (by intro h0;subst h0;simp at hcond;exact ⟨hcond.1.1,hcond.2⟩);have h2:=hR.tm t _ hx;rw[ptrOf_val hp]at h2;show (do loadVar T (←asAddr (a.tmps.getD t undef)):Sem Value).run P w=_;rw[h2];exact h1
theorem resV_run {fn:Func} {s:St} {μ:Nat→Nat} {a:Act} {w:World} {r:SV} (hR:Rel ρ s μ a w) (h:resV P s fn.results.toList=some r):(results fn a.tmps).run P w=.ok (r.val ρ μ) w:=by
 have hl:fn.results=fn.results.toList.toArray:=by simp
 generalize fn.results.toList=rs at h hl;rw[results_eq,hl];unfold resV at h;split at h
 ·cases h;simp[SV.val]
 ·rename_i r1
  cases h1:resOne P s r1 with
  | none=>rw[h1]at h;cases h
  | some x=>
   rw[h1]at h;cases h;simp[resOne_run hR h1,SV.val]
 ·rename_i r1 r2
  simp only[bind,Option.bind]at h;cases h1:resOne P s r1 with
  | none=>rw[h1]at h;cases h
  | some x=>
   rw[h1]at h;simp only at h;cases h2:resOne P s r2 with
   | none=>rw[h2]at h;cases h
   | some y=>
    rw[h2]at h;cases h;simp[resOne_run hR h1,resOne_run hR h2,SV.val]
 ·rename_i r1 r2 r3
  simp only[bind,Option.bind]at h;cases h1:resOne P s r1 with
  | none=>rw[h1]at h;cases h
  | some x=>
   rw[h1]at h;simp only at h;cases h2:resOne P s r2 with
   | none=>rw[h2]at h;cases h
   | some y=>
    rw[h2]at h;simp only at h;cases h3:resOne P s r3 with
    | none=>rw[h3]at h;cases h
    | some z=>
     rw[h3]at h;cases h;simp[resOne_run hR h1,resOne_run hR h2,resOne_run hR h3,SV.val]
 ·cases h
theorem rel_start {xs:List (Bool×List Sg)} {n:Nat} (hn:(xs.all fun y=>y.2.all (·.okn fun _=>false))=true) (w:World) :
 Rel ρ (undefs (xs.map fun x=>.v x.1 x.2) n) id { tmps:=(xs.map fun x=>cv ρ id x.1 x.2).toArray++Array.replicate (n-(xs.map fun x=>cv ρ id x.1 x.2).toArray.size) undef,defers:=[] } w:=by
 have aA:∀b,(undefs (xs.map fun x=>SV.v x.1 x.2) n).blk b=none:=fun b=>rfl;have hσ:∀(t:Nat) x,(undefs (xs.map fun x=>SV.v x.1 x.2) n).σ[t]?=some x→(∃y,xs[t]?=some y∧x=.v y.1 y.2)∨(xs.length≤t∧t<xs.length+(n-xs.length)∧x=.v false [.c undef]):=by
  intro t x hx;simp only[undefs]at hx;rcases Nat.lt_or_ge t xs.length with h | h
  ·rw[List.getElem?_append_left (by simpa using h)]at hx;simp only[List.getElem?_map,Option.map_eq_some_iff]at hx;obtain⟨y,h1,h2⟩:=hx;exact .inl ⟨y,h1,h2.symm⟩
  ·rw[List.getElem?_append_right (by simpa using h)]at hx;have h1:=(List.getElem?_eq_some_iff.1 hx);obtain⟨h2,h3⟩:=h1;simp only[List.length_map,List.length_replicate]at h2;exact .inr ⟨h,by omega,by rw[←h3];simp⟩
 refine ⟨by simp[undefs],rfl,fun t x hx=>?_,fun b T cs hb=>(by rw[aA]at hb;cases hb),fun b b' hb=>(by rw[aA]at hb;cases hb),fun t x hx=>?_,fun b T cs hb=>(by rw[aA]at hb;cases hb)⟩
 ·rcases hσ t x hx with ⟨y,h1,rfl⟩ | ⟨h1,h2,rfl⟩
  ·have h3:=(List.getElem?_eq_some_iff.1 h1).1;simp only[Array.getD_eq_getD_getElem?];rw[Array.getElem?_append_left (by simpa using h3)];simp[h1,SV.val]
  ·simp only[Array.getD_eq_getD_getElem?];rw[Array.getElem?_append_right (by simpa using h1)];simp;rw[Array.getElem?_replicate];split<;>rfl
 ·rcases hσ t x hx with ⟨y,h1,rfl⟩ | ⟨h1,h2,rfl⟩
  ·have h3:=List.all_eq_true.1 hn y (List.mem_of_getElem? h1);exact okn_mono (fun b hb=>by cases hb) h3
  ·rfl
theorem outF_sound {f fuel:Nat} {fn:Func} {args:Array Value} {es:List Eqn} {v:Value} (hm:P.follows .mixedOrders=true) (hf:P.funcs[f]?=some fn) (h:outF P g fuel fn ρ=some (args,es,v)) (hes:∀e∈es,e.Ok P) (w:World) :
 Calls P f args w fun e w'=>e=.returned v∧Below w.heap.size w w':=by
 unfold outF at h;split at h
 ·rename_i c ps na hb hps
  have aD:=shapes_okn hps (fun _=>false);have aE:∀(k:XK) (s':St) (aC:Nat) (qs:List Rq),runC P g ρ fuel c (undefs (ps.map fun x=>.v x.1 x.2) fn.ntmps) na=some (k,s',aC,qs)→(k=.nrm∨k=.ret)→
   (match resV P s' fn.results.toList with
   | some r=>if r.okn (fun _=>false)=true then some ((ps.map fun x=>cv ρ id x.1 x.2).toArray,qs.map (Rq.eqn ρ),r.val ρ id) else none
   | none=>none)=some (args,es,v)→Calls P f args w fun e w'=>e=.returned v∧Below w.heap.size w w':=by
   intro k s' aC qs aB hk aA;split at aA
   ·rename_i r hr
    split at aA
    ·rename_i hok
     cases aA;refine calls_of_wp hf hb ?_;refine runC_sound hm fuel c _ na _ aB (fun q hq=>hes _ (List.mem_map_of_mem hq)) id _ w _ (rel_start aD w) fun μ' a' w' hR hG=>?_;have h1:=resV_run (fn:=fn) hR hr;have h2:r.val ρ μ'=r.val ρ id:=SV.val_congr (N:=fun _=>false) (fun b hb=>by cases hb) hok;rw[h2]at h1;have h3:Below w.heap.size w w':=⟨hG.kp.os,hG.kp.tape,hG.kp.output,hG.kp.size,fun k hk=>hG.kp.block k hk fun b hb=>by cases hb⟩;rcases hk with rfl | rfl
     ·exact ⟨hR.df,_,h1,rfl,h3⟩
     ·exact ⟨hR.df,_,h1,rfl,h3⟩
    ·cases aA
   ·cases aA
  split at h
  ·cases h
  ·rename_i k s' aC qs hne aB
   refine aE k s' aC qs aB ?_ h;cases k with
   | nrm=>exact .inl rfl
   | ext id=>exact (hne id rfl).elim
   | ret=>exact .inr rfl
  ·cases h
 ·cases h
end
structure DC (P : Program) where
 e:Eqn
 ok:e.Ok P
 res:List Av
theorem sx_fun {P:Program} {g:TypeId→Option (List Nat)} {f:Nat} {fn:Func} {args:Array Value} {v:Value} (fuel:Nat) (ρ0:List Av) (ds:List (DC P)) (hm:P.follows .mixedOrders=true) (hf:P.funcs[f]?=some fn)
 (h:outF P g fuel fn (ρ0++ds.flatMap (·.res))=some (args,ds.map (·.e),v)) (w:World):Calls P f args w fun e w'=>e=.returned v∧Below w.heap.size w w':=
 outF_sound hm hf h (fun e he=>by obtain⟨d,_,rfl⟩:=List.mem_map.1 he;exact d.ok) w
end
section
def av64 (l:List UInt64) (k:Nat) (h:l.length=k):Av:=⟨C9 l,k,by simp[h],fun v hv=>by
 have:=D1w l;rw[Array.all_eq_true_iff_forall_mem]at this;exact this v (by simpa using hv)⟩
def av8 (l:List UInt8) (k:Nat) (h:l.length=k):Av:=⟨c8 l,k,by simp[h],fun v hv=>by
 have:=D6d l;rw[Array.all_eq_true_iff_forall_mem]at this;exact this v (by simpa using hv)⟩
def av1 (v:Value) (h:v.oneCell'=true):Av:=⟨[v],1,rfl,fun u hu=>by rw[List.mem_singleton.1 hu];exact h⟩
section
variable {f : FuncId} {args : Array Value}
def dE {l:List UInt64} (h:∀W,Calls Tryz.prog f args W fun e W'=>e=.returned (J3 l)∧Below W.heap.size W W') (hl:l.length=5):DC Tryz.prog:=⟨.call f args (J3 l),h,[av64 l 5 hl]⟩
def dR {l:List UInt64} (k:Nat) (h:∀W,Calls Tryz.prog f args W fun e W'=>e=.returned (J3 l)∧Below W.heap.size W W') (hl:l.length=k):DC Tryz.prog:=⟨.call f args (J3 l),h,[av64 l k hl]⟩
def dV {v:Value} (h:∀W,Calls Tryz.prog f args W fun e W'=>e=.returned v∧Below W.heap.size W W') (hv:v.oneCell'=true):DC Tryz.prog:=⟨.call f args v,h,[av1 v hv]⟩
def dH {l:List UInt8} (h:∀W,Calls Tryz.prog f args W fun e W'=>e=.returned (A8 l)∧Below W.heap.size W W') (hl:l.length=32):DC Tryz.prog:=⟨.call f args (A8 l),h,[av8 l 32 hl]⟩
def dB {b:Bool} (h:∀W,Calls Tryz.prog f args W fun e W'=>e=.returned (.bool b)∧Below W.heap.size W W'):DC Tryz.prog:=⟨.call f args (.bool b),h,[av1 (.bool b) rfl]⟩
def dEB {l:List UInt64} {b:Bool} (h:∀W,Calls Tryz.prog f args W fun e W'=>e=.returned (.tuple #[J3 l,.bool b])∧Below W.heap.size W W') (hl:l.length=5):DC Tryz.prog:=⟨.call f args (.tuple #[J3 l,.bool b]),h,[av64 l 5 hl,av1 (.bool b) rfl]⟩
def dEE {l m:List UInt64} (h:∀W,Calls Tryz.prog f args W fun e W'=>e=.returned (.tuple #[J3 l,J3 m])∧Below W.heap.size W W') (hl:l.length=5) (hm:m.length=5):DC Tryz.prog:=⟨.call f args (.tuple #[J3 l,J3 m]),h,[av64 l 5 hl,av64 m 5 hm]⟩
end
theorem mixed:Tryz.prog.follows .mixedOrders=true:=by kernel_rfl
def dO64 {op:BinOp} {x y v:Value} (h:∀W,(binOp op 117 x y).run Tryz.prog W=.ok v W) (hg:∀(X Y:Operand) W,(eqGuard op 117 X Y x y).run Tryz.prog W=.ok () W) (ho:v.oneCell'=true):DC Tryz.prog:=
 ⟨.bin op 117 x y v,fun X Y W=>by simp only[Sem.run_bind,hg X Y W,Result.andThen_ok,h W],[av1 v ho]⟩
abbrev Ho (x : UInt64) : Value := .int .u64 (L6 x)
def dAdd (x y:UInt64):DC Tryz.prog:=dO64 (op:=.add) (x:=Ho x) (y:=Ho y) (v:=Ho (x+y)) (fun W=>by rw[show binOp .add 117 (Ho x) (Ho y)=Op.intArith .add .u64 (L6 x) (L6 y) from rfl,add64];rfl) (fun _ _ _=>rfl) rfl
def dSub (x y:UInt64):DC Tryz.prog:=dO64 (op:=.sub) (x:=Ho x) (y:=Ho y) (v:=Ho (x-y)) (fun W=>by rw[show binOp .sub 117 (Ho x) (Ho y)=Op.intArith .sub .u64 (L6 x) (L6 y) from rfl,C3o];rfl) (fun _ _ _=>rfl) rfl
def dMul (x y:UInt64):DC Tryz.prog:=dO64 (op:=.mul) (x:=Ho x) (y:=Ho y) (v:=Ho (x*y)) (fun W=>by rw[show binOp .mul 117 (Ho x) (Ho y)=Op.intArith .mul .u64 (L6 x) (L6 y) from rfl,B1c];rfl) (fun _ _ _=>rfl) rfl
def dAnd64 (x y:UInt64):DC Tryz.prog:=dO64 (op:=.and) (x:=Ho x) (y:=Ho y) (v:=Ho (x &&& y)) (fun W=>by rw[show binOp .and 117 (Ho x) (Ho y)=Op.intBits .and .u64 (L6 x) (L6 y) from rfl,B8p];rfl) (fun _ _ _=>rfl) rfl
def dShr64 (x:UInt64) (k:IntKind) (s:Nat) (hs:s<64):DC Tryz.prog:=dO64 (op:=.shr) (x:=Ho x) (y:=.int k (s:Int)) (v:=Ho (x >>> UInt64.ofNat s)) (fun W=>by rw[show binOp .shr 117 (Ho x) (.int k (s:Int))=Op.shift .shr .u64 (L6 x) k (s:Int) from rfl,Ex x k s hs];rfl) (fun _ _ _=>rfl) rfl
def avs (l:List UInt64):List Av:=l.map fun x=>av64 [x] 1 rfl
def dE5 {f:FuncId} {args:Array Value} {l:List UInt64} (h:∀W,Calls Tryz.prog f args W fun e W'=>e=.returned (J3 l)∧Below W.heap.size W W'):DC Tryz.prog:=⟨.call f args (J3 l),h,avs l⟩
theorem len5 {p:List UInt64→Prop} (h:∀a b c d e,p [a,b,c,d,e]):∀l:List UInt64,l.length=5→p l
 | [a,b,c,d,e],_=>h a b c d e
theorem len2 {p:List UInt64→Prop} (h:∀a b,p [a,b]):∀l:List UInt64,l.length=2→p l
 | [a,b],_=>h a b
def gE (t:TypeId):Option (List Nat):=if t=138 then some [1,1,1,1,1] else none
def gE2 (t:TypeId):Option (List Nat):=if t=211 then some [1,1] else gE t
end
section
def Fz (f g:Nat→UInt64) (n i:Nat):List UInt64:=(List.range n).map fun j=>if j<i then f j else g j
@[simp, go_sem] theorem Rv (f g : Nat → UInt64) (n i : Nat) : (Fz f g n i).length = n := by simp [Fz]
theorem Jg {f g:Nat→UInt64} {n i j:Nat} (hj:j<n):F9 (Fz f g n i) j=if j<i then f j else g j:=by
 unfold F9 Fz;rw[List.getD_eq_getElem?_getD,List.getElem?_map,List.getElem?_range hj];rfl
theorem Ls {f g:Nat→UInt64} {n i:Nat} (hi:i<n) {x:UInt64} (hx:x=f i):(Fz f g n i).set i x=Fz f g n (i+1):=by
 subst hx;apply List.ext_getElem?;intro j;unfold Fz;rw[List.getElem?_set];by_cases h:i=j
 ·subst h;rw[if_pos rfl,if_pos (by simpa using hi),List.getElem?_map,List.getElem?_range hi];simp
 ·rw[if_neg h,List.getElem?_map,List.getElem?_map];by_cases hj:j<n
  ·rw[List.getElem?_range hj];simp only[Option.map_some];have:(j<i+1)↔(j<i):=by omega
   simp[this]
  ·rw[List.getElem?_eq_none (by simpa using hj)];rfl
theorem Pp {f:Nat→UInt64} {l:List UInt64} {n:Nat} (hl:l.length=n):Fz f (F9 l) n 0=l:=by
 apply List.ext_getElem?;intro j;unfold Fz;rw[List.getElem?_map];by_cases hj:j<n
 ·rw[List.getElem?_range hj,List.getElem?_eq_getElem (by omega)];simp[F9,List.getD_eq_getElem?_getD,List.getElem?_eq_getElem (show j<l.length by omega)]
 ·rw[List.getElem?_eq_none (by simpa using hj),List.getElem?_eq_none (by omega)];rfl
theorem A2m {f:Nat→UInt64} {n:Nat}:Fz f (fun _=>0) n 0=K9 n:=by
 apply List.ext_getElem?;intro j;unfold Fz K9;rw[List.getElem?_map,List.getElem?_replicate];by_cases hj:j<n
 ·rw[List.getElem?_range hj,if_pos hj];rfl
 ·rw[List.getElem?_eq_none (by simpa using hj),if_neg hj];rfl
set_option maxRecDepth 100000
theorem Md (a:List UInt64) (ha:a.length=5) (w:World):Calls Tryz.prog 134 #[J3 a] w fun e w'=>e=.returned (J3 (Ia a))∧Below w.heap.size w w':=by
 revert a;refine len5 fun a b c d e=>?_;let l:=[a,b,c,d,e]
 let L:UInt64:=2251799813685247
 exact sx_fun (g:=gE) 100 (avs l) (((List.range 5).flatMap fun i=>[dShr64 (F9 l i) .u64 51 (by decide),dAnd64 (F9 l i) L])++([dMul 19 (e >>> 51),dAdd (a &&& L) ((19:UInt64)*(e >>> 51))]++(List.range 4).map fun i=>dAdd (F9 l (i+1) &&& L) (F9 l i >>> 51)))
  mixed Tryz.func134 (by kernel_rfl) w
end
section
def O9:World→List (TypeId×List Value)→World
 | w,[]=>w
 | w,x::l=>O9 (w.alloc (.cells x.2.toArray x.1)) l
theorem Gt:∀(l:List (TypeId×List Value)) (w:World),Below w.heap.size w (O9 w l)
 | [],w=>Below.refl _ _
 | x::l,w=>(Cj _ _).trans ((Gt l _).mono (by simp))
theorem Oq:∀(l:List (TypeId×List Value)) (w:World),(O9 w l).heap.size=w.heap.size+l.length
 | [],w=>rfl
 | x::l,w=>by rw[O9,Oq l];simp;omega
theorem Bs:∀(l:List (TypeId×List Value)) (w:World) (i:Nat) (t:TypeId) (cs:List Value),l[i]?=some (t,cs)→Bk (O9 w l) (w.heap.size+i) t cs
 | [],_,_,_,_,h=>by simp at h
 | x::l,w,0,t,cs,h=>by
  simp only[List.getElem?_cons_zero,Option.some.injEq]at h;subst h;exact (Bk.new w t cs).below (Gt l _) (by simp)
 | x::l,w,i+1,t,cs,h=>by
  have:=Bs l (w.alloc (.cells x.2.toArray x.1)) i t cs (by simpa using h);rw[O9];have e:(w.alloc (.cells x.2.toArray x.1)).heap.size+i=w.heap.size+(i+1):=by simp;omega
  rwa [e]at this
set_option maxRecDepth 100000
theorem Xm (t0 t1 t2 t3 t4:List UInt64) (h0:t0.length=2) (h1:t1.length=2) (h2:t2.length=2) (h3:t3.length=2) (h4:t4.length=2) (w:World):Calls Tryz.prog 133 #[J3 t0,J3 t1,J3 t2,J3 t3,J3 t4] w fun e w'=>e=.returned (J3 (Qc t0 t1 t2 t3 t4))∧Below w.heap.size w w':=by
 revert t0;refine len2 fun a0 a1=>?_;revert t1;refine len2 fun b0 b1=>?_;revert t2;refine len2 fun c0 c1=>?_;revert t3;refine len2 fun d0 d1=>?_;revert t4;refine len2 fun e0 e1=>?_;let L:UInt64:=2251799813685247
 let c:UInt64:=19
 let o:=fun (x y:UInt64)=>dV (Ss [x,y] rfl) rfl
 exact sx_fun (g:=gE2) 100 (avs [a0,a1,b0,b1,c0,c1,d0,d1,e0,e1]) [o a0 a1,o b0 b1,o c0 c1,o d0 d1,o e0 e1,dAnd64 a1 L,dMul c (over [e0,e1]),dAdd (a1 &&& L) (c*over [e0,e1]),
  dAnd64 b1 L,dAdd (b1 &&& L) (over [a0,a1]),dAnd64 c1 L,dAdd (c1 &&& L) (over [b0,b1]),dAnd64 d1 L,dAdd (d1 &&& L) (over [c0,c1]),dAnd64 e1 L,dAdd (e1 &&& L) (over [d0,d1]),dE5 (Md (C4r [a0,a1] [b0,b1] [c0,c1] [d0,d1] [e0,e1]) rfl)] mixed Tryz.func133 (by kernel_rfl) w
def Wt (a b:List UInt64):List UInt64:=N9 (N9 (N9 (N9 (Cp (F9 a 0) (F9 b 0)) (19*F9 a 1) (F9 b 4)) (19*F9 a 2) (F9 b 3)) (19*F9 a 3) (F9 b 2)) (19*F9 a 4) (F9 b 1)
@[simp, go_sem] theorem C9p (a b : List UInt64) : (Wt a b).length = 2 := rfl
def Wn (a b:List UInt64):List UInt64:=N9 (N9 (N9 (N9 (Cp (F9 a 0) (F9 b 1)) (F9 a 1) (F9 b 0)) (19*F9 a 2) (F9 b 4)) (19*F9 a 3) (F9 b 3)) (19*F9 a 4) (F9 b 2)
@[simp, go_sem] theorem C9t (a b : List UInt64) : (Wn a b).length = 2 := rfl
def Wm (a b:List UInt64):List UInt64:=N9 (N9 (N9 (N9 (Cp (F9 a 0) (F9 b 2)) (F9 a 1) (F9 b 1)) (F9 a 2) (F9 b 0)) (19*F9 a 3) (F9 b 4)) (19*F9 a 4) (F9 b 3)
@[simp, go_sem] theorem C9o (a b : List UInt64) : (Wm a b).length = 2 := rfl
def Wr (a b:List UInt64):List UInt64:=N9 (N9 (N9 (N9 (Cp (F9 a 0) (F9 b 3)) (F9 a 1) (F9 b 2)) (F9 a 2) (F9 b 1)) (F9 a 3) (F9 b 0)) (19*F9 a 4) (F9 b 4)
@[simp, go_sem] theorem C9i (a b : List UInt64) : (Wr a b).length = 2 := rfl
def Vy (a b:List UInt64):List UInt64:=N9 (N9 (N9 (N9 (Cp (F9 a 0) (F9 b 4)) (F9 a 1) (F9 b 3)) (F9 a 2) (F9 b 2)) (F9 a 3) (F9 b 1)) (F9 a 4) (F9 b 0)
@[simp, go_sem] theorem C9s (a b : List UInt64) : (Vy a b).length = 2 := rfl
def C4 (a b:List UInt64):List UInt64:=Qc (Wt a b) (Wn a b) (Wm a b) (Wr a b) (Vy a b)
@[simp, go_sem] theorem D4t (a b : List UInt64) : (C4 a b).length = 5 := rfl
def dProd (x y:UInt64):DC Tryz.prog:=dR 2 (Z7 x y) rfl
def dPlus (p:List UInt64) (hp:p.length=2) (x y:UInt64):DC Tryz.prog:=dR 2 (Y0 p hp x y) rfl
def chain:(p:List UInt64)→p.length=2→List (UInt64×UInt64)→List (DC Tryz.prog)
 | _,_,[]=>[]
 | p,hp,(x,y)::l=>dPlus p hp x y::chain (N9 p x y) rfl l
def sums (x y:UInt64) (l:List (UInt64×UInt64)):List (DC Tryz.prog):=dProd x y::chain (Cp x y) rfl l
theorem P9 (a b:List UInt64) (ha:a.length=5) (hb:b.length=5) (w:World):Calls Tryz.prog 102 #[J3 a,J3 b] w fun e w'=>e=.returned (J3 (C4 a b))∧Below w.heap.size w w':=by
 revert a;refine len5 fun a0 a1 a2 a3 a4=>?_;revert b;refine len5 fun b0 b1 b2 b3 b4=>?_;let a:=[a0,a1,a2,a3,a4]
 let b:=[b0,b1,b2,b3,b4]
 let c:UInt64:=19
 exact sx_fun (g:=gE) 100 (avs a++avs b) ([dMul c a1,dMul c a2,dMul c a3,dMul c a4]++(sums a0 b0 [(c*a1,b4),(c*a2,b3),(c*a3,b2),(c*a4,b1)]++(sums a0 b1 [(a1,b0),(c*a2,b4),(c*a3,b3),(c*a4,b2)]++(sums a0 b2 [(a1,b1),(a2,b0),(c*a3,b4),(c*a4,b3)] ++
  (sums a0 b3 [(a1,b2),(a2,b1),(a3,b0),(c*a4,b4)]++(sums a0 b4 [(a1,b3),(a2,b2),(a3,b1),(a4,b0)]++[dE5 (Xm (Wt a b) (Wn a b) (Wm a b) (Wr a b) (Vy a b) rfl rfl rfl rfl rfl)])))))) mixed Tryz.func102 (by kernel_rfl) w
def A4g (a:List UInt64):List UInt64:=N9 (N9 (Cp (F9 a 0) (F9 a 0)) (2*F9 a 1) (19*F9 a 4)) (2*F9 a 2) (19*F9 a 3)
@[simp, go_sem] theorem D3d (a : List UInt64) : (A4g a).length = 2 := rfl
def A1s (a:List UInt64):List UInt64:=N9 (N9 (Cp (2*F9 a 0) (F9 a 1)) (2*F9 a 2) (19*F9 a 4)) (F9 a 3) (19*F9 a 3)
@[simp, go_sem] theorem C9z (a : List UInt64) : (A1s a).length = 2 := rfl
def A2b (a:List UInt64):List UInt64:=N9 (N9 (Cp (2*F9 a 0) (F9 a 2)) (F9 a 1) (F9 a 1)) (2*F9 a 3) (19*F9 a 4)
@[simp, go_sem] theorem D0p (a : List UInt64) : (A2b a).length = 2 := rfl
def A4u (a:List UInt64):List UInt64:=N9 (N9 (Cp (2*F9 a 0) (F9 a 3)) (2*F9 a 1) (F9 a 2)) (F9 a 4) (19*F9 a 4)
@[simp, go_sem] theorem D3j (a : List UInt64) : (A4u a).length = 2 := rfl
def A5g (a:List UInt64):List UInt64:=N9 (N9 (Cp (2*F9 a 0) (F9 a 4)) (2*F9 a 1) (F9 a 3)) (F9 a 2) (F9 a 2)
@[simp, go_sem] theorem D1n (a : List UInt64) : (A5g a).length = 2 := rfl
def Rp (a:List UInt64):List UInt64:=Qc (A4g a) (A1s a) (A2b a) (A4u a) (A5g a)
@[simp, go_sem] theorem D9h (a : List UInt64) : (Rp a).length = 5 := rfl
set_option maxRecDepth 100000
theorem Ui (a:List UInt64) (ha:a.length=5) (w:World):Calls Tryz.prog 148 #[J3 a] w fun e w'=>e=.returned (J3 (Rp a))∧Below w.heap.size w w':=by
 revert a;refine len5 fun a0 a1 a2 a3 a4=>?_;let a:=[a0,a1,a2,a3,a4]
 let c:UInt64:=19
 let t:UInt64:=2
 exact sx_fun (g:=gE) 100 (avs a) ([dMul t a0,dMul t a1,dMul t a2,dMul c a3,dMul c a4]++(sums a0 a0 [(t*a1,c*a4),(t*a2,c*a3)]++(sums (t*a0) a1 [(t*a2,c*a4),(a3,c*a3)]++([dProd (t*a0) a2,dPlus (Cp (t*a0) a2) rfl a1 a1,dMul t a3,dPlus (N9 (Cp (t*a0) a2) a1 a1) rfl (t*a3) (c*a4)] ++
  (sums (t*a0) a3 [(t*a1,a2),(a4,c*a4)]++(sums (t*a0) a4 [(t*a1,a3),(a2,a2)]++[dE5 (Xm (A4g a) (A1s a) (A2b a) (A4u a) (A5g a) rfl rfl rfl rfl rfl)])))))) mixed Tryz.func148 (by kernel_rfl) w
end
section
variable {w W : World} {l : List (TypeId × List Value)} {t : TypeId} {cs : List Value}
theorem Jh (i : Nat) (h : W = O9 w l) (e : l[i]? = some (t, cs)) : Bk W (w.heap.size + i) t cs := h ▸ Bs _ w i _ _ e
theorem Me (h : W = O9 w l) (e : l[0]? = some (t, cs)) : Bk W w.heap.size t cs := h ▸ Bs _ w 0 _ _ e
theorem Li (h : W = O9 w l) : Below w.heap.size w W := h ▸ Gt _ _
theorem ZL' (n : Nat) (h : W = O9 w l) (e : l.length = n) : w.heap.size + n ≤ W.heap.size := by rw [h, Oq, e]; exact Nat.le_refl _
theorem SL' (n : Nat) (h : W = O9 w l) (e : l.length = n) : W.heap.size = w.heap.size + n := by rw [h, Oq, e]
end
section
def A8j (a b:List UInt64) (j:Nat):UInt64:=F9 a j+F9 b j
def A1c (a b:List UInt64) (j:Nat):UInt64:=F9 a j+(9007199254740988-F9 b j)
def D8g (a b:List UInt64):List UInt64:=Fz (A8j a b) (F9 a) 5 5
def C8u (a b:List UInt64):List UInt64:=(Fz (A1c a b) (F9 a) 5 5).set 0 (A1c a b 0-72)
@[simp, go_sem] theorem D4p (a b : List UInt64) : (D8g a b).length = 5 := rfl
@[simp, go_sem] theorem D4d (a b : List UInt64) : (C8u a b).length = 5 := rfl
def C8 (a b:List UInt64):List UInt64:=Ia (D8g a b)
def E8 (a b:List UInt64):List UInt64:=Ia (C8u a b)
@[simp, go_sem] theorem D5i (a b : List UInt64) : (C8 a b).length = 5 := rfl
@[simp, go_sem] theorem D5d (a b : List UInt64) : (E8 a b).length = 5 := rfl
def E4 (v:UInt64):List UInt64:=[v &&& 2251799813685247,v >>> 51,0,0,0]
@[simp, go_sem] theorem C9k (v : UInt64) : (E4 v).length = 5 := rfl
def Ct:Nat→List UInt64→List UInt64
 | 0,a=>a
 | n+1,a=>Rp (Ct n a)
@[simp, go_sem] theorem B0j {a : List UInt64} (ha : a.length = 5) : ∀ n, (Ct n a).length = 5
 | 0=>ha
 | _+1=>rfl
set_option maxRecDepth 100000
theorem Jj (a b:List UInt64) (ha:a.length=5) (hb:b.length=5) (w:World):Calls Tryz.prog 127 #[J3 a,J3 b] w fun e w'=>e=.returned (J3 (C8 a b))∧Below w.heap.size w w':=by
 revert a;refine len5 fun a0 a1 a2 a3 a4=>?_;revert b;refine len5 fun b0 b1 b2 b3 b4=>?_;let a:=[a0,a1,a2,a3,a4]
 let b:=[b0,b1,b2,b3,b4]
 exact sx_fun (g:=gE) 100 (avs a++avs b) (((List.range 5).map fun i=>dAdd (F9 a i) (F9 b i))++[dE5 (Md (D8g a b) rfl)]) mixed Tryz.func127 (by kernel_rfl) w
theorem Hc (a b:List UInt64) (ha:a.length=5) (hb:b.length=5) (w:World):Calls Tryz.prog 128 #[J3 a,J3 b] w fun e w'=>e=.returned (J3 (E8 a b))∧Below w.heap.size w w':=by
 revert a;refine len5 fun a0 a1 a2 a3 a4=>?_;revert b;refine len5 fun b0 b1 b2 b3 b4=>?_;let a:=[a0,a1,a2,a3,a4]
 let b:=[b0,b1,b2,b3,b4]
 let M:UInt64:=9007199254740988
 exact sx_fun (g:=gE) 100 (avs a++avs b) (((List.range 5).flatMap fun i=>[dSub M (F9 b i),dAdd (F9 a i) (M-F9 b i)])++[dSub (a0+(M-b0)) 72,dE5 (Md (C8u a b) rfl)]) mixed Tryz.func128 (by kernel_rfl) w
theorem Nd (v:UInt64) (w:World):Calls Tryz.prog 124 #[.int .u64 (L6 v)] w fun e w'=>e=.returned (J3 (E4 v))∧Below w.heap.size w w':=sx_fun (g:=gE) 100 (avs [v]) [dAnd64 v 2251799813685247,dShr64 v .u64 51 (by decide)] mixed Tryz.func124 (by kernel_rfl) w
theorem Eb (a:List UInt64) (ha:a.length=5) (n:Nat) (hn:n≤1000000) (w:World):Calls Tryz.prog 130 #[J3 a,.int .i64 (n:Int)] w fun e w'=>e=.returned (J3 (Ct n a))∧Below w.heap.size w w':=by
 obtain⟨W0,aA⟩:=H8 ((w.alloc (Obj.cells (C9 a).toArray 138)).alloc (Obj.cells (C9 (K9 5)).toArray 138));have hL:W0=O9 w [(138,C9 a),(138,C9 (K9 5))]:=aA;have B0:=Li hL;have A0:=Me hL rfl;have R0:=Jh 1 hL rfl;clear hL;go_enter Tryz.func130,Tryz.ntmps130;go_wp2_with fail;rw[←aA];clear aA;go_loopw [6] (fun t wr=>∃i:Nat,i≤n∧t=.int .i64 (i:Int)∧Bk wr w.heap.size 138 (C9 (Ct i a))∧Bk wr (w.heap.size+1) 138 (C9 (K9 5))∧Below w.heap.size w wr) (fun t _=>n-(intOf t).toNat)
 case atStart=>exact ⟨0,by omega,rfl,A0,R0,B0⟩
 case round=>
  clear A0 R0 B0;obtain⟨i,hi,rfl,K,R,B⟩:=hrel;have hl:=B0j ha i;have rk:=K.row64 hl;by_cases hlt:i<n
  ·go_wp2_with fail;refine (Ui (Ct i a) hl wr).mono ?_;rintro e w1 ⟨rfl,b1⟩;have K1:=K.bl b1;have R1:=R.bl b1;have B1:=M9 B b1;have aB:U7 w1 ⟨w.heap.size,0,none⟩ 5=true:=K1.can (by simp[hl]);go_wp2_with fail;go_roundw;case rel=>exact ⟨i+1,by omega,by go_num,K1.puts (by simp[hl]),R1.putFar (by simp) _,C5 B1 (by simp) _⟩
   case measure=>simp[intOf];omega
  ·obtain rfl:i=n:=by omega
   have aB:=Iq 5 R (by simp);go_wp2_with fail;refine bodyPost_ret (E5 rfl _ _ _ _ _ _ rfl (R.puts (vs:=C9 (Ct i a)) (by simp[hl])) U8 rfl (by simp[Bn,hl])) rfl ⟨rfl,C5 B (by simp) _⟩
end
theorem Bk.row8 {w:World} {g:Nat} {t:TypeId} {l:List UInt8} {n:Nat} (h:Bk w g t (c8 l)) (hl:l.length=n):J0 w ⟨g,0,none⟩ n=some (c8 l):=by have:=h.rows;rwa [J9,hl]at this
def Jd (a:List UInt64):List UInt64:=C4 (Ct 2 (Rp a)) a
def Gx (a:List UInt64):List UInt64:=C4 (Jd a) (Rp a)
def f5 (a:List UInt64):List UInt64:=C4 (Rp (Gx a)) (Jd a)
def f10 (a:List UInt64):List UInt64:=C4 (Ct 5 (f5 a)) (f5 a)
def Rn (a:List UInt64):List UInt64:=C4 (Ct 10 (f10 a)) (f10 a)
def f50 (a:List UInt64):List UInt64:=C4 (Ct 10 (C4 (Ct 20 (Rn a)) (Rn a))) (f10 a)
def Ky (a:List UInt64):List UInt64:=C4 (Ct 50 (f50 a)) (f50 a)
def Ge (a:List UInt64):List UInt64:=C4 (Ct 50 (C4 (Ct 100 (Ky a)) (Ky a))) (f50 a)
def Co (a:List UInt64):List UInt64:=C4 (Ct 5 (Ge a)) (Gx a)
@[simp, go_sem] theorem C9v (a : List UInt64) : (Jd a).length = 5 := rfl
@[simp, go_sem] theorem C6r (a : List UInt64) : (Gx a).length = 5 := rfl
@[simp, go_sem] theorem E1f (a : List UInt64) : (f5 a).length = 5 := rfl
@[simp, go_sem] theorem D7n (a : List UInt64) : (f10 a).length = 5 := rfl
@[simp, go_sem] theorem D7r (a : List UInt64) : (Rn a).length = 5 := rfl
@[simp, go_sem] theorem D7y (a : List UInt64) : (f50 a).length = 5 := rfl
@[simp, go_sem] theorem D4j (a : List UInt64) : (Ky a).length = 5 := rfl
@[simp, go_sem] theorem D0c (a : List UInt64) : (Ge a).length = 5 := rfl
@[simp, go_sem] theorem D4e (a : List UInt64) : (Co a).length = 5 := rfl
def Mj (f:Nat→UInt8) (n i:Nat):List UInt8:=(List.range n).map fun j=>if j<i then f j else 0
@[simp, go_sem] theorem Kv (f : Nat → UInt8) (n i : Nat) : (Mj f n i).length = n := by simp [Mj]
theorem A8b {f:Nat→UInt8} {n i:Nat} (hi:i<n) {x:UInt8} (hx:x=f i):(Mj f n i).set i x=Mj f n (i+1):=by
 subst hx;apply List.ext_getElem?;intro j;unfold Mj;rw[List.getElem?_set];by_cases h:i=j
 ·subst h;rw[if_pos rfl,if_pos (by simpa using hi),List.getElem?_map,List.getElem?_range hi];simp
 ·rw[if_neg h,List.getElem?_map,List.getElem?_map];by_cases hj:j<n
  ·rw[List.getElem?_range hj];simp only[Option.map_some];have:(j<i+1)↔(j<i):=by omega
   simp[this]
  ·rw[List.getElem?_eq_none (by simpa using hj)];rfl
theorem Zo {f:Nat→UInt8} {n:Nat}:Mj f n 0=z8 n:=by
 apply List.ext_getElem?;intro j;unfold Mj z8;rw[List.getElem?_map,List.getElem?_replicate];by_cases hj:j<n
 ·rw[List.getElem?_range hj,if_pos hj];rfl
 ·rw[List.getElem?_eq_none (by simpa using hj),if_neg hj];rfl
def A4z (ws:List UInt64) (j:Nat):UInt8:=(F9 ws (j / 8) >>> UInt64.ofNat (8*(j % 8))).toUInt8
def Ug (ws:List UInt64) (n:Nat):List UInt8:=Mj (A4z ws) n n
@[simp, go_sem] theorem Te (ws : List UInt64) (n : Nat) : (Ug ws n).length = n := Kv _ _ _
def hq (b:List UInt64):Nat→UInt64
 | 0=>(F9 b 0+19) >>> (51:UInt64)
 | i+1=>(F9 b (i+1)+hq b i) >>> (51:UInt64)
def hs (b:List UInt64):Nat→List UInt64
 | 0=>b.set 0 (F9 b 0+19*hq b 4)
 | i+1=>((hs b i).set (i+1) (F9 (hs b i) (i+1)+F9 (hs b i) i >>> (51:UInt64))).set i (F9 (hs b i) i &&& (2251799813685247:UInt64))
theorem A6a {b:List UInt64} (hb:b.length=5):∀i,(hs b i).length=5
 | 0=>by simp[hs,hb]
 | i+1=>by simp[hs,A6a hb i]
def C0a (b:List UInt64):List UInt64:=(hs b 4).set 4 (F9 (hs b 4) 4 &&& (2251799813685247:UInt64))
def Hn (c:List UInt64):List UInt64:=[F9 c 0 ||| F9 c 1 <<< (51:UInt64),F9 c 1 >>> (13:UInt64) ||| F9 c 2 <<< (38:UInt64),F9 c 2 >>> (26:UInt64) ||| F9 c 3 <<< (25:UInt64),F9 c 3 >>> (39:UInt64) ||| F9 c 4 <<< (12:UInt64)]
@[simp, go_sem] theorem C9q (c : List UInt64) : (Hn c).length = 4 := rfl
def U0 (a:List UInt64):List UInt8:=Ug (Hn (C0a (Ia (Ia a)))) 32
@[simp, go_sem] theorem Cn (a : List UInt64) : (U0 a).length = 32 := Te _ _
theorem Gh (a:List UInt64) (ha:a.length=5) (w:World):Calls Tryz.prog 103 #[J3 a] w fun e w'=>e=.returned (A8 (U0 a))∧Below w.heap.size w w':=by
 obtain⟨W0,aH⟩:=H8 ((w.alloc (Obj.cells (C9 a).toArray 138)).alloc (Obj.cells (c8 (z8 32)).toArray 23));have hL:W0=O9 w [(138,C9 a),(23,c8 (z8 32))]:=aH;have B0:=Li hL;have A0:=Me hL rfl;have R0:=Jh 1 hL rfl;have z0:=ZL' 2 hL rfl;clear hL;have ra:=A0.row64 ha;rw[aH]at ra;go_enter Tryz.func103,Tryz.ntmps103;go_wp2_with fail;rw[←aH];clear aH ra;refine (Md a ha W0).mono ?_;rintro e w1 ⟨rfl,b1⟩;go_wp2_with fail;refine (Md (Ia a) rfl w1).mono ?_;rintro e w2 ⟨rfl,b2⟩;have aF:=M9 b1 b2;have A2:=A0.bl aF;have R2:=R0.bl aF;have B2:=M9 B0 aF;have z2:=Nat.le_trans z0 aF.size;obtain⟨b,hb⟩:=H8 (Ia (Ia a));have aK:b.length=5:=by rw[hb];rfl
 have HB:Hid (U0 a=Ug (Hn (C0a b)) 32):=Lib.hid (by rw[hb];rfl);rw[←hb];clear hb A0 R0 B0 b1 b2 aF z0;have aG:U7 w2 ⟨w.heap.size,0,none⟩ 5=true:=A2.can (by simp[ha]);obtain⟨W3,aC⟩:=H8 (E0 w2 ⟨w.heap.size,0,none⟩ (C9 b));have A3:Bk W3 w.heap.size 138 (C9 b):=by rw[aC];exact A2.puts (by simp[ha,aK])
 have R3:Bk W3 (w.heap.size+1) 23 (c8 (z8 32)):=by rw[aC];exact R2.putFar (by simp) _
 have B3:Below w.heap.size w W3:=by rw[aC];exact C5 B2 (Nat.le_refl _) _
 have z3:w.heap.size+2≤W3.heap.size:=by rw[aC];have:=(C5 (Below.refl w.heap.size w2) (a:=⟨w.heap.size,0,none⟩) (Nat.le_refl _) (C9 b)).size;omega
 have k0:=A3.at_ (M5 (l:=b) (i:=0) (by omega));rw[aC]at k0;clear A2 R2 B2 z2;go_wp2_with fail;rw[←aC];clear aC k0 aG;go_loop [4,3] (fun t q=>∃i:Nat,i<5∧t=.int .i64 ((i:Int)+1)∧q=.int .u64 (L6 (hq b i))) (fun t _=>5-(intOf t).toNat)
 case atStart=>exact ⟨0,by omega,rfl,rfl⟩
 case round=>
  obtain⟨i,hi,rfl,rfl⟩:=hrel;by_cases hlt:i+1<5
  ·have k0:=A3.at_ (M5 (l:=b) (i:=i+1) (by omega));have e1:(i:Int)+1<5:=by omega
   go_wp2_with fail;go_round;case rel=>exact ⟨i+1,hlt,by go_num,rfl⟩
   case measure=>simp[intOf];omega
  ·obtain rfl:i=4:=by omega
   have k0:=A3.at_ (M5 (l:=b) (i:=0) (by omega));have f0:=A3.frozen 0;obtain⟨W4,aD⟩:=H8 (W3.setCell ⟨w.heap.size,0,none⟩ (.int .u64 (L6 (F9 b 0+19*hq b 4))));have A4:Bk W4 w.heap.size 138 (C9 (hs b 0)):=by have:=A3.set_ 0 (.int .u64 (L6 (F9 b 0+19*hq b 4)));rw[Cb]at this;rw[aD];exact this
   have R4:Bk W4 (w.heap.size+1) 23 (c8 (z8 32)):=by rw[aD];exact R3.far (by simp) _
   have B4:Below w.heap.size w W4:=by rw[aD];exact B3.setCell (by simp) _
   have z4:w.heap.size+2≤W4.heap.size:=by rw[aD];simpa [World.setCell] using z3
   have e5:(((4:Nat):Int)+1)=5:=rfl;rw[e5];clear A3 R3 B3 z3 e5;go_wp2_with fail;rw[←aD];clear aD k0 f0;go_loopw [36] (fun t wr=>∃i:Nat,i≤4∧t=.int .i64 (i:Int)∧Bk wr w.heap.size 138 (C9 (hs b i))∧Bk wr (w.heap.size+1) 23 (c8 (z8 32))∧Below w.heap.size w wr∧w.heap.size+2≤wr.heap.size) (fun t _=>4-(intOf t).toNat)
   case atStart=>exact ⟨0,by omega,rfl,A4,R4,B4,z4⟩
   case round=>
    clear A4 R4 B4 z4;obtain⟨i,hi,rfl,A,R,B,z⟩:=hrel;have hl:=A6a aK i;by_cases hlt:i<4
    ·have k0:=A.at_ (M5 (l:=hs b i) (i:=i+1) (by omega));have k1:=A.at_ (M5 (l:=hs b i) (i:=i) (by omega));have f0:=A.frozen (i+1);have A5:=A.set_ (i+1) (.int .u64 (L6 (F9 (hs b i) (i+1)+F9 (hs b i) i >>> (51:UInt64))));have R5:=R.far (p:=⟨w.heap.size,i+1,none⟩) (by simp) (.int .u64 (L6 (F9 (hs b i) (i+1)+F9 (hs b i) i >>> (51:UInt64))));have k5:=A5.at_ (i:=i) (u:=.int .u64 (L6 (F9 (hs b i) i))) (by rw[List.getElem?_set_ne (by omega)];exact M5 (by omega));have f5:=A5.frozen i;have A6:=A5.set_ i (.int .u64 (L6 (F9 (hs b i) i &&& (2251799813685247:UInt64))));rw[Cb,Cb]at A6;have R6:=R5.far (p:=⟨w.heap.size,i,none⟩) (by simp) (.int .u64 (L6 (F9 (hs b i) i &&& (2251799813685247:UInt64))));have e1:(i:Int)+1<5:=by omega
     clear A R A5 R5;go_wp2_with fail;refine Am 13 (by kernel_rfl) (by kernel_rfl) ?_;simp only[List.take_succ_cons,List.take_zero,List.drop_succ_cons,List.drop_zero];repeat (go_big_quiet_step (fail))
     refine wpQuiet_nil ?_;rintro w6 ⟨aI,rfl⟩;have k6:((wr.drewN aI).setCell ⟨w.heap.size,i+1,none⟩ (.int .u64 (L6 (F9 (hs b i) (i+1)+F9 (hs b i) i >>> (51:UInt64))))).cell? ⟨w.heap.size,i,none⟩=some (.int .u64 (L6 (F9 (hs b i) i))):=k5;have f6:((wr.drewN aI).setCell ⟨w.heap.size,i+1,none⟩ (.int .u64 (L6 (F9 (hs b i) (i+1)+F9 (hs b i) i >>> (51:UInt64))))).frozen? ⟨w.heap.size,i,none⟩=false:=f5;clear k5 f5;go_wp2_with fail;go_roundw;case rel=>exact ⟨i+1,by omega,by go_num,A6,R6,((O8 B aI).setCell (by simp) _).setCell (by simp) _,by simpa [World.setCell] using z⟩
     case measure=>simp[intOf];omega
    ·obtain rfl:i=4:=by omega
     have k0:=A.at_ (M5 (l:=hs b 4) (i:=4) (by omega));have f0:=A.frozen 4;have e5:((4:Nat):Int)=4:=rfl;rw[e5];obtain⟨W5,aB⟩:=H8 (wr.setCell ⟨w.heap.size,4,none⟩ (.int .u64 (L6 (F9 (hs b 4) 4 &&& (2251799813685247:UInt64)))));have A5:Bk W5 w.heap.size 138 (C9 (C0a b)):=by have:=A.set_ 4 (.int .u64 (L6 (F9 (hs b 4) 4 &&& (2251799813685247:UInt64))));rw[Cb]at this;rw[aB];exact this
     have R5:Bk W5 (w.heap.size+1) 23 (c8 (z8 32)):=by rw[aB];exact R.far (by simp) _
     have B5:Below w.heap.size w W5:=by rw[aB];exact B.setCell (by simp) _
     have z5:w.heap.size+2≤W5.heap.size:=by rw[aB];simpa [World.setCell] using z
     have aN:(C0a b).length=5:=by simp[C0a,hl]
     obtain⟨cc,aJ⟩:=H8 (C0a b);rw[←aJ]at A5 aN;have HC:Hid (U0 a=Ug (Hn cc) 32):=Lib.hid (by rw[HB.out,aJ]);have c0:=A5.at_ (M5 (l:=cc) (i:=0) (by omega));have c1:=A5.at_ (M5 (l:=cc) (i:=1) (by omega));have c2:=A5.at_ (M5 (l:=cc) (i:=2) (by omega));have c3:=A5.at_ (M5 (l:=cc) (i:=3) (by omega));have c4:=A5.at_ (M5 (l:=cc) (i:=4) (by omega));obtain⟨W6,aE⟩:=H8 ((E0 (W5.alloc (Obj.cells (C9 (K9 4)).toArray 182)) ⟨W5.heap.size,0,none⟩ (C9 (Hn cc))).alloc (Obj.cells (c8 (z8 32)).toArray 23));have D6:Bk W6 W5.heap.size 182 (C9 (Hn cc)):=by rw[aE];exact (Bk.fresh64 W5 _ (by simp)).alloc _
     have b6:Below W5.heap.size W5 W6:=by rw[aE];exact (C5 (Cj _ _) (Nat.le_refl _) _).alloc (by simp) _
     have O6:Bk W6 (W5.heap.size+1) 23 (c8 (z8 32)):=by rw[aE];simpa using Bk.new (E0 (W5.alloc (Obj.cells (C9 (K9 4)).toArray 182)) ⟨W5.heap.size,0,none⟩ (C9 (Hn cc))) 23 (c8 (z8 32))
     have aA:=Db W5 182 (K9 4) 4 _ (by simp) rfl;have R6:=R5.bl b6;have B6:=M9 B5 b6;have aL:W5.heap.size=wr.heap.size:=by rw[aB];simp[World.setCell]
     rw[aL]at D6 O6 aA aE;obtain⟨p,hp⟩:=H8 (wr.heap.size);have zp:w.heap.size+2≤p:=by rw[hp];exact z
     rw[aB]at c0 c1 c2 c3 c4 aA;clear A R B z A5 R5 B5 z5 b6 aJ aL;go_wp2_with fail;rw[show [F9 cc 0 ||| F9 cc 1 <<< (51:UInt64),F9 cc 1 >>> (13:UInt64) ||| F9 cc 2 <<< (38:UInt64),F9 cc 2 >>> (26:UInt64) ||| F9 cc 3 <<< (25:UInt64),F9 cc 3 >>> (39:UInt64) ||| F9 cc 4 <<< (12:UInt64)]=Hn cc from rfl];rw[←aB,←aE];rw[←hp]at D6 O6 ⊢;clear aB aE hp c0 c1 c2 c3 c4 aA k0 f0 e5;rw[←Zo (f:=A4z (Hn cc))]at O6;go_loopw [102] (fun t wr=>∃i:Nat,i≤32∧t=.int .i64 (i:Int)∧Bk wr p 182 (C9 (Hn cc))∧Bk wr (p+1) 23 (c8 (Mj (A4z (Hn cc)) 32 i))∧Bk wr (w.heap.size+1) 23 (c8 (z8 32))∧Below w.heap.size w wr) (fun t _=>32-(intOf t).toNat)
     case atStart=>exact ⟨0,by omega,rfl,D6,O6,R6,B6⟩
     case round=>
      clear D6 O6 R6 B6;obtain⟨i,hi,rfl,D,O,R,B⟩:=hrel;by_cases hlt:i<32
      ·have aP:(i:Int) / 8=((i / 8:Nat):Int):=by omega
       have aQ:(i:Int) % 8=((i % 8:Nat):Int):=by omega
       have hx:A4z (Hn cc) i=(F9 (Hn cc) (i / 8) >>> UInt64.ofNat (8*(i % 8))).toUInt8:=rfl;have d0:=D.at_ (M5 (l:=Hn cc) (i:=i / 8) (by simp;omega));have o0:=O.at_ (Fl (l:=Mj (A4z (Hn cc)) 32 i) (i:=i) (by simpa using hlt));have f0:=O.frozen i;have aR:i / 8<4:=by omega
       have aS:i % 8<8:=by omega
       have HX:=Lib.hid hx;have O3:=O.set_ i (.int .u8 (n8 (F9 (Hn cc) (i / 8) >>> UInt64.ofNat (8*(i % 8))).toUInt8));rw[Gz,A8b (f:=A4z (Hn cc)) hlt HX.out.symm]at O3;clear hx;generalize i / 8=qq at *;generalize i % 8=rr at *;obtain⟨ss,aM⟩:=H8 (8*rr);have h8:8*(rr:Int)=(ss:Int):=by omega
       have aO:ss<64:=by omega
       rw[←aM]at O3;clear HX aM;go_wp2_with fail;go_roundw;case rel=>exact ⟨i+1,by omega,by go_num,D.far (by simp) _,O3,R.far (by simp;omega) _,B.setCell (by simp;omega) _⟩
       case measure=>simp[intOf];omega
      ·obtain rfl:i=32:=by omega
       have hO:Bk wr (p+1) 23 (c8 (Ug (Hn cc) 32)):=O;rw[←HC.out]at hO;have ro:=hO.row8 (n:=32) (by simp);have aG:=Iq 32 R (by simp);have e5:((32:Nat):Int)=32:=rfl;rw[e5];clear e5 O hO D;go_wp2_with fail;refine bodyPost_ret (E5 rfl _ _ _ _ _ _ rfl (R.puts (vs:=c8 (U0 a)) (by simp)) Tryz.underlying23 rfl (by simp[Q8])) rfl ⟨rfl,C5 B (by simp) _⟩
def A3l (a:List UInt64):Bool:=g8 (U0 a) 0 &&& 1==1
theorem A2g (a:List UInt64) (ha:a.length=5) (w:World):Calls Tryz.prog 104 #[J3 a] w fun e w'=>e=.returned (.bool (A3l a))∧Below w.heap.size w w':=by
 obtain⟨W0,aA⟩:=H8 (w.alloc (Obj.cells (C9 a).toArray 138));have B0:=BA' aA;have A0:=KN' aA;have ra:=A0.row64 ha;rw[aA]at ra;have hl:(U0 a).length=32:=by simp
 have hb:(n8 (g8 (U0 a) 0 &&& 1)==1)=A3l a:=Qg (x:=g8 (U0 a) 0 &&& 1) (y:=1);go_enter Tryz.func104,Tryz.ntmps104;go_wp2_with fail;rw[←aA];clear aA ra;refine (Gh a ha W0).mono ?_;rintro e w1 ⟨rfl,b1⟩;go_wp2_with fail;go_ret;exact ⟨rfl,E9 B0 b1 B0.size⟩
end Go.Proofs.YtlegpkdighoflaaGreat
