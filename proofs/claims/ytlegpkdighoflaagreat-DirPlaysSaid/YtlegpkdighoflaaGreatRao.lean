/- A part of the proof of DirPlays. -/
import Derived.Test.YtlegpkdighoflaaGreatRae
set_option linter.unusedVariables false
set_option linter.unusedSimpArgs false
set_option maxRecDepth 100000
set_option maxHeartbeats 40000000
namespace Go.Proofs.YtlegpkdighoflaaGreat
open Go Go.RowKit Sh
structure Av where
 l:List Value
 k:Nat
 h:l.length=k
 one:∀v∈l,v.oneCell'=true
inductive Sg where
 | c (v:Value)
 | m (n k:Nat)
 | p (b o:Nat)
 | sl (b o l q:Nat)
def Sg.len:Sg→Nat
 | .m _ k=>k
 | _=>1
def jnk:Value:=.bool false
def C6t (ρ:List Av) (n k:Nat):List Value:=match ρ[n]? with
 | some x=>if x.k=k then x.l else List.replicate k jnk
 | none=>List.replicate k jnk
theorem D0w (ρ:List Av) (n k:Nat):(C6t ρ n k).length=k:=by
 unfold C6t;split
 ·rename_i x _
  split
  ·rename_i h;rw[x.h,h]
  ·simp
 ·simp
theorem D0q (ρ:List Av) (n k:Nat):∀v∈C6t ρ n k,v.oneCell'=true:=by
 unfold C6t;split
 ·rename_i x _
  split
  ·exact x.one
  ·intro v hv;rw[List.eq_of_mem_replicate hv];rfl
 ·intro v hv;rw[List.eq_of_mem_replicate hv];rfl
def Sg.cells (ρ:List Av) (μ:Nat→Nat):Sg→List Value
 | .c v=>[v]
 | .m n k=>C6t ρ n k
 | .p b o=>[.pointer (some ⟨μ b,o,none⟩)]
 | .sl b o l q=>[.slice (some ⟨μ b,o,none⟩) l q]
theorem Sg.cells_len (ρ:List Av) (μ:Nat→Nat) (s:Sg):(s.cells ρ μ).length=s.len:=by
 cases s<;>simp[Sg.cells,Sg.len,D0w]
def Sg.one:Sg→Bool
 | .c v=>v.oneCell'
 | _=>true
theorem Sg.cells_one (ρ:List Av) (μ:Nat→Nat) (s:Sg) (h:s.one=true):∀v∈s.cells ρ μ,v.oneCell'=true:=by
 cases s with
 | c v=>intro u hu;simp only[Sg.cells,List.mem_singleton]at hu;subst hu;exact h
 | m n k=>exact D0q ρ n k
 | p b o=>intro u hu;simp only[Sg.cells,List.mem_singleton]at hu;subst hu;rfl
 | sl b o l q=>intro u hu;simp only[Sg.cells,List.mem_singleton]at hu;subst hu;rfl
def cellsL (ρ:List Av) (μ:Nat→Nat):List Sg→List Value
 | []=>[]
 | [s]=>s.cells ρ μ
 | s::l=>s.cells ρ μ++cellsL ρ μ l
theorem Z6 (ρ:List Av) (μ:Nat→Nat) (s:Sg) (l:List Sg):cellsL ρ μ (s::l)=s.cells ρ μ++cellsL ρ μ l:=by
 cases l<;>simp[cellsL]
theorem Dn (ρ:List Av) (μ:Nat→Nat):cellsL ρ μ []=[]:=rfl
def Jo:List Sg→Nat
 | []=>0
 | s::l=>s.len+Jo l
theorem Cd (ρ:List Av) (μ:Nat→Nat):∀l:List Sg,(cellsL ρ μ l).length=Jo l
 | []=>rfl
 | s::l=>by simp[Z6,Dn,Jo,Sg.cells_len,Cd ρ μ l]
theorem Nb (ρ:List Av) (μ:Nat→Nat):∀l l':List Sg,cellsL ρ μ (l++l')=cellsL ρ μ l++cellsL ρ μ l'
 | [],_=>rfl
 | s::l,l'=>by simp[Z6,Dn,Nb ρ μ l l']
theorem Ss:∀l l':List Sg,Jo (l++l')=Jo l+Jo l'
 | [],_=>by simp[Jo]
 | s::l,l'=>by simp[Jo,Ss l l'];omega
def E3n (l:List Sg):Bool:=l.all Sg.one
theorem A5z (ρ:List Av) (μ:Nat→Nat):∀l:List Sg,E3n l=true→∀v∈cellsL ρ μ l,v.oneCell'=true
 | [],_,_,h=>by cases h
 | s::l,h,v,hv=>by
  simp only[E3n,List.all_cons,Bool.and_eq_true]at h;rw[Z6]at hv;rcases List.mem_append.1 hv with hv | hv
  ·exact Sg.cells_one ρ μ s h.1 v hv
  ·exact A5z ρ μ l h.2 v hv
def A2s:List Sg→Nat→Option (List Sg)
 | [],n=>if n=0 then some [] else none
 | s::l,n=>if n=0 then some (s::l) else if s.len≤n then A2s l (n-s.len) else none
def A4w:List Sg→Nat→Option (List Sg)
 | [],n=>if n=0 then some [] else none
 | s::l,n=>if n=0 then some [] else if s.len≤n then (A4w l (n-s.len)).map (s :: ·) else none
theorem Si (ρ : List Av) (μ : Nat → Nat) : ∀ (l : List Sg) (n : Nat) (l' : List Sg), A2s l n = some l' → cellsL ρ μ l' = (cellsL ρ μ l).drop n ∧ n + Jo l' = Jo l
  | [], n, l', h => by
    unfold A2s at h
    split at h
    · cases h; simp [Z6, Dn, Jo, *]
    · cases h
  | s :: l, n, l', h => by
    unfold A2s at h
    split at h
    · cases h; simp [*]
    · split at h
      · rename_i h0 h1
        obtain ⟨h2, h3⟩ := Si ρ μ l _ l' h
        refine ⟨?_, ?_⟩
        · rw [h2]; simp only [Z6]
          rw [List.drop_append, (show List.drop n (s.cells ρ μ) = [] from List.drop_eq_nil_of_le (by rw [Sg.cells_len]; exact h1)), Sg.cells_len]; rfl
        · simp only [Jo]; omega
      · cases h
theorem Qw (ρ : List Av) (μ : Nat → Nat) : ∀ (l : List Sg) (n : Nat) (l' : List Sg), A4w l n = some l' → cellsL ρ μ l' = (cellsL ρ μ l).take n ∧ Jo l' = n
  | [], n, l', h => by
    unfold A4w at h
    split at h
    · cases h; simp [Z6, Dn, Jo, *]
    · cases h
  | s :: l, n, l', h => by
    unfold A4w at h
    split at h
    · rename_i h0; cases h; simp [Z6, Dn, Jo, h0]
    · split at h
      · rename_i h0 h1
        cases h2 : A4w l (n - s.len) with
        | none => rw [h2] at h; cases h
        | some l2 =>
          rw [h2] at h; cases h
          obtain ⟨h3, h4⟩ := Qw ρ μ l _ l2 h2
          refine ⟨?_, ?_⟩
          · simp only [Z6]
            rw [h3, List.take_append, Sg.cells_len, List.take_of_length_le (l := s.cells ρ μ) (by rw [Sg.cells_len]; exact h1)]
          · simp only [Jo]; omega
      · cases h
def A6m (l:List Sg) (o n:Nat):Option (List Sg):=(A2s l o).bind (A4w · n)
theorem Wr {ρ:List Av} {μ:Nat→Nat} {l:List Sg} {o n:Nat} {l':List Sg} (h:A6m l o n=some l'):cellsL ρ μ l'=((cellsL ρ μ l).drop o).take n∧Jo l'=n∧o+n≤Jo l:=by
 unfold A6m at h;cases h1:A2s l o with
 | none=>rw[h1]at h;cases h
 | some l1=>
  rw[h1]at h;obtain⟨h2,h3⟩:=Si ρ μ _ _ _ h1;obtain⟨h4,h5⟩:=Qw ρ μ _ _ _ h;have h6:=congrArg List.length h4;rw[Cd,List.length_take,Cd]at h6;exact ⟨by rw[h4,h2],h5,by omega⟩
def C6f (l:List Sg) (o:Nat) (x:List Sg):Option (List Sg):=
 match A4w l o,A2s l (o+Jo x) with
 | some a,some b=>some (a++(x++b))
 | _,_=>none
theorem A3r {ρ:List Av} {μ:Nat→Nat} {l:List Sg} {o:Nat} {x l':List Sg} (h:C6f l o x=some l') :
 cellsL ρ μ l'=(cellsL ρ μ l).take o++cellsL ρ μ x++(cellsL ρ μ l).drop (o+(cellsL ρ μ x).length)∧Jo l'=Jo l∧o+Jo x≤Jo l:=by
 unfold C6f at h;split at h
 ·rename_i a b h1 h2
  cases h;obtain⟨h3,h4⟩:=Qw ρ μ _ _ _ h1;obtain⟨h5,h6⟩:=Si ρ μ _ _ _ h2;refine ⟨?_,?_,by omega⟩
  ·rw[Nb,Nb,h3,h5,Cd,List.append_assoc]
  ·rw[Ss,Ss];omega
 ·cases h
inductive SV where
 | v (a:Bool) (l:List Sg)
 | tup (l:List (Bool×List Sg))
def cv (ρ:List Av) (μ:Nat→Nat) (a:Bool) (l:List Sg):Value:=if a then .agg (cellsL ρ μ l).toArray else (cellsL ρ μ l).headD undef
def SV.val (ρ:List Av) (μ:Nat→Nat):SV→Value
 | .v a l=>cv ρ μ a l
 | .tup l=>.tuple (l.map fun x=>cv ρ μ x.1 x.2).toArray
def Sg.okn (N:Nat→Bool):Sg→Bool
 | .p b _ | .sl b _ _ _=>N b
 | _=>true
def SV.okn (N:Nat→Bool):SV→Bool
 | .v _ l=>l.all (·.okn N)
 | .tup l=>l.all fun x=>x.2.all (·.okn N)
theorem Sg.cells_congr {ρ:List Av} {μ μ':Nat→Nat} {N:Nat→Bool} (h:∀b,N b=true→μ b=μ' b) {s:Sg} (hs:s.okn N=true):s.cells ρ μ=s.cells ρ μ':=by
 cases s with
 | c v=>rfl
 | m n k=>rfl
 | p b o=>simp only[Sg.cells,h b hs]
 | sl b o l q=>simp only[Sg.cells,h b hs]
theorem Kt {ρ:List Av} {μ μ':Nat→Nat} {N:Nat→Bool} (h:∀b,N b=true→μ b=μ' b):∀ {l:List Sg},l.all (·.okn N)=true→cellsL ρ μ l=cellsL ρ μ' l
 | [],_=>rfl
 | s::l,hl=>by
  simp only[List.all_cons,Bool.and_eq_true]at hl;simp only[Z6,Dn,Sg.cells_congr h hl.1,Kt h hl.2]
theorem B4v {ρ:List Av} {μ μ':Nat→Nat} {N:Nat→Bool} (h:∀b,N b=true→μ b=μ' b) {a:Bool} {l:List Sg} (hl:l.all (·.okn N)=true):cv ρ μ a l=cv ρ μ' a l:=by
 unfold cv;rw[Kt h hl]
theorem SV.val_congr {ρ:List Av} {μ μ':Nat→Nat} {N:Nat→Bool} (h:∀b,N b=true→μ b=μ' b) {x:SV} (hx:x.okn N=true):x.val ρ μ=x.val ρ μ':=by
 cases x with
 | v a l=>exact B4v h hx
 | tup l=>
  simp only[SV.val];congr 2;refine List.map_congr_left fun y hy=>?_;exact B4v h (List.all_eq_true.1 hx y hy)
def Zi {α:Type} (P:Program):Sem α→Option α
 | .pure x=>some x
 | .program k=>Zi P (k P)
 | _=>none
theorem Vx {α:Type} {P:Program}:∀ {s:Sem α} {x:α},Zi P s=some x→∀w,s.run P w=.ok x w
 | .pure y,x,h,w=>by simp only[Zi,Option.some.injEq]at h;subst h;rfl
 | .program k,x,h,w=>by simp only[Zi]at h;exact Vx (s:=k P) h w
 | .load ..,_,h,_=>by cases h
 | .store ..,_,h,_=>by cases h
 | .new ..,_,h,_=>by cases h
 | .shape ..,_,h,_=>by cases h
 | .freeze ..,_,h,_=>by cases h
 | .frozen ..,_,h,_=>by cases h
 | .getObj ..,_,h,_=>by cases h
 | .setObj ..,_,h,_=>by cases h
 | .choose ..,_,h,_=>by cases h
 | .sys ..,_,h,_=>by cases h
 | .mark ..,_,h,_=>by cases h
 | .halt ..,_,h,_=>by cases h
structure St where
 σ:List SV
 h:List (Option (TypeId×List Sg))
def St.blk (s:St) (b:Nat):Option (TypeId×List Sg):=(s.h[b]?).join
inductive Rq where
 | call (f:FuncId) (args:List SV) (r:SV)
 | bin (op:BinOp) (t:TypeId) (x y:SV) (r:SV)
structure SEv where
 val:SV
 wb:Option (Nat×TypeId×List Sg):=none
 rb:List Nat:=[]
 rq:Option Rq:=none
 na:Nat
def Pz:Value→Option SV
 | .agg cs=>if cs.toList.all (·.oneCell') then some (.v true (cs.toList.map .c)) else none
 | .tuple _=>none
 | v=>some (.v false [.c v])
def Jy (s:St):Operand→Option SV
 | .tmp t=>s.σ[t]?
 | .const v=>Pz v
 | _=>none
def Oc:List Sg→Option (List Value)
 | []=>some []
 | .c v::l=>(Oc l).map (v :: ·)
 | _::_=>none
def A9o:SV→Option Value
 | .v false [.c v]=>some v
 | .v true l=>(Oc l).map fun vs=>.agg vs.toArray
 | _=>none
theorem Qo {ρ:List Av} {μ:Nat→Nat}:∀ {l:List Sg} {vs:List Value},Oc l=some vs→cellsL ρ μ l=vs
 | [],vs,h=>by cases h;rfl
 | .c v::l,vs,h=>by
  simp only[Oc]at h;cases h1:Oc l with
  | none=>rw[h1]at h;cases h
  | some us=>rw[h1]at h;cases h;simp only[Z6,Dn,Sg.cells,Qo h1,List.singleton_append]
 | .m .. :: _,_,h=>by cases h
 | .p .. :: _,_,h=>by cases h
 | .sl .. :: _,_,h=>by cases h
theorem B6q {ρ:List Av} {μ:Nat→Nat} {x:SV} {v:Value} (h:A9o x=some v):x.val ρ μ=v:=by
 unfold A9o at h;split at h
 ·cases h;rfl
 ·rename_i l
  cases h1:Oc l with
  | none=>rw[h1]at h;cases h
  | some us=>rw[h1]at h;cases h;simp only[SV.val,cv,if_true,Qo h1]
 ·cases h
theorem Mq (ρ:List Av) (μ:Nat→Nat):∀l:List Value,cellsL ρ μ (l.map .c)=l
 | []=>rfl
 | v::l=>by simp only[List.map_cons,Z6,Dn,Sg.cells,Mq ρ μ l,List.singleton_append]
theorem Oh {ρ:List Av} {μ:Nat→Nat} {v:Value} {x:SV} (h:Pz v=some x):x.val ρ μ=v:=by
 unfold Pz at h;split at h
 ·split at h
  ·cases h;simp only[SV.val,cv,if_true,Mq]
  ·cases h
 ·cases h
 ·cases h;rfl
def Qy (s:St) (x:Operand):Option Value:=(Jy s x).bind A9o
def Qi (P:Program) (t:TypeId):Option Nat:=(P.info? t).map (·.size)
def Xu (P:Program) (t:TypeId):Option Bool:=match P.underlying t with
 | some (.struct _) | some (.array _ _)=>some true
 | some _=>some false
 | none=>none
def Ve:SV→Option (List Sg)
 | .v true l=>if E3n l then some l else none
 | .v false [s]=>if s.len=1∧s.one=true then some [s] else none
 | _=>none
def Qe:SV→Option (Nat×Nat)
 | .v false [.p b o]=>some (b,o)
 | _=>none
def A8n:SV→Option Nat
 | .v false [.c (.int _ (.ofNat n))]=>some n
 | _=>none
def Zu (ρ:List Av):SV→Option Bool
 | .v false [.c (.bool b)]=>some b
 | .v false [.m n 1]=>match C6t ρ n 1 with
  | [.bool b]=>some b
  | _=>none
 | _=>none
theorem Oe {ρ:List Av} {μ:Nat→Nat} {x:SV} {b:Bool} (h:Zu ρ x=some b):x.val ρ μ=.bool b:=by
 unfold Zu at h;split at h
 ·cases h;rfl
 ·split at h
  ·rename_i n u hu
   cases h;simp[SV.val,cv,Z6,Dn,Sg.cells,hu]
  ·cases h
 ·cases h
def A0r (P:Program) (t:TypeId) (l:List Sg) (o:Nat):Option SV:=do
 let a ←Xu P t
 let n ←if a then Qi P t else some 1
 let x ←A6m l o n
 if !a&&x.length != 1 then none else some (.v a x)
def Ri (P:Program) (t:TypeId) (f:Nat):Option Field:=match P.underlying t with
 | some (.struct fs)=>fs[f]?
 | _=>none
def Zq (P:Program) (g:TypeId→Option (List Nat)) (na:Nat) (t:TypeId):Option ((Bool×List Sg)×Nat):=do
 let a ←Xu P t
 match g t with
 | some ks=>some ((a,(ks.zipIdx na).map fun x=>.m x.2 x.1),na+ks.length)
 | none=>let n ←Qi P t;some ((a,[.m na n]),na+1)
def Wd (P:Program) (g:TypeId→Option (List Nat)):Nat→List TypeId→Option (List (Bool×List Sg)×Nat)
 | na,[]=>some ([],na)
 | na,t::ts=>do
  let x ←Zq P g na t
  let y ←Wd P g x.2 ts
  some (x.1::y.1,y.2)
def D2j (P:Program) (f:FuncId):Bool:=match P.funcs[f]? with
 | some fn => !(fn.name == "runtime.NumGoroutine") && fn.body.isSome
 | none=>false
def B1g (P:Program) (g:TypeId→Option (List Nat)) (na:Nat) (s:St) (f:FuncId) (args:List Operand):Option SEv:=do
 let xs ←args.mapM (Jy s)
 let fn ←P.funcs[f]?
 if !D2j P f || !xs.all (·.okn fun _=>false) then none else
 match fn.resultTypes.toList with
 | []=>some { val:=.tup [],rq:=some (.call f xs (.tup [])),na }
 | [t]=>do
  let x ←Zq P g na t
  some { val:=.v x.1.1 x.1.2,rq:=some (.call f xs (.v x.1.1 x.1.2)),na:=x.2 }
 | ts=>do
  let x ←Wd P g na ts
  some { val:=.tup x.1,rq:=some (.call f xs (.tup x.1)),na:=x.2 }
def B8n (P:Program) (t:TypeId):Option (Nat→Option (Nat×Nat)):=match P.underlying t with
 | some (.struct fs)=>if fs.toList.all (fun f=>(Qi P f.type).isSome)=true then some fun i=>(fs[i]?).bind fun f=>(Qi P f.type).map fun n=>(f.offset,n) else none
 | some (.array _ e)=>(Qi P e).map fun n=>fun i=>some (i*n,n)
 | _=>none
def A8d (plc:Nat→Option (Nat×Nat)) (st:St):List Sg→List (Nat×Operand)→Option (List Sg)
 | l,[]=>some l
 | l,(i,x)::ps=>match plc i,(Jy st x).bind Ve with
  | some (o,n),some y=>if Jo y=n then match C6f l o y with
   | some l'=>A8d plc st l' ps
   | none=>none
   else none
  | _,_=>none
def D4p:Op→Bool
 | .binOp .. | .unOp .. | .convert ..=>true
 | _=>false
def A6d (s:St) (o:Oper):Bool:=D4p o.op&&o.op.operands.toList.all fun x=>(Qy s x).isSome
def B2z (P:Program) (na:Nat) (s:St) (o:Oper):Option SEv:=
 match Zi P (execOp (fun x=>(Qy s x).getD undef) o) with
 | some (.value v)=>(Pz v).map fun x=>{ val:=x,na }
 | _=>none
def C7q (P:Program) (g:TypeId→Option (List Nat)) (ρ:List Av) (nm na:Nat) (s:St) (o:Oper):Option SEv:=
 match o.op with
 | .move x | .assign x=>(Jy s x).map fun x=>{ val:=x,na }
 | .pick c x y=>match (Jy s c).bind (Zu ρ) with
  | some b=>(Jy s (if b then x else y)).map fun x=>{ val:=x,na }
  | none=>none
 | .alloc t=>match (P.info? t).bind (·.zero) with
  | some z=>if z.cells.toList.all (·.oneCell') then some { val:=.v false [.p nm 0],wb:=some (nm,t,z.cells.toList.map .c),na } else none
  | none=>none
 | .box t x=>((Jy s x).bind Ve).map fun l=>{ val:=.v false [.p nm 0],wb:=some (nm,t,l),na }
 | .build t ps=>match (P.info? t).bind (·.zero),B8n P t with
  | some z,some plc=>if z.cells.toList.all (·.oneCell') then (A8d plc s (z.cells.toList.map .c) ps.toList).map fun l=>{ val:=.v true l,na } else none
  | _,_=>none
 | .load t x=>do
  let (b,f) ←(Jy s x).bind Qe
  let (_,cs) ←s.blk b
  let n ←Qi P t
  let a ←Xu P t
  let l ←A6m cs f n
  if (!a&&l.length != 1)||n==0||(!a&&n != 1) then none else some { val:=.v a l,rb:=[b],na }
 | .store t x y=>do
  let (b,f) ←(Jy s x).bind Qe
  let (T,cs) ←s.blk b
  let l ←(Jy s y).bind Ve
  let n ←Qi P t
  let cs' ←C6f cs f l
  if Jo l != n||n==0||o.dst.isSome then none else some { val:=.v false [.c undef],wb:=some (b,T,cs'),rb:=[b],na }
 | .fieldAddr t x f=>do
  let (b,k) ←(Jy s x).bind Qe
  let fd ←Ri P t f
  let n ←Qi P fd.type
  if n==0 then none else some { val:=.v false [.p b (k+fd.offset)],na }
 | .field t x f=>match Jy s x with
  | some (.v true l)=>do
   let fd ←Ri P t f
   let y ←A0r P fd.type l fd.offset
   some { val:=y,na }
  | _=>none
 | .indexAddr t x i=>do
  let k ←(Jy s i).bind A8n
  match P.underlying t with
  | some (.array len e)=>do
   let (b,f) ←(Jy s x).bind Qe
   let n ←Qi P e
   if k<len then some { val:=.v false [.p b (f+k*n)],na } else none
  | some (.slice e)=>match Jy s x with
   | some (.v false [.sl b f l _])=>do
    let n ←Qi P e
    if k<l then some { val:=.v false [.p b (f+k*n)],na } else none
   | _=>none
  | _=>none
 | .index t x i=>do
  let k ←(Jy s i).bind A8n
  match P.underlying t,Jy s x with
  | some (.array len e),some (.v true l)=>do
   let n ←Qi P e
   let y ←A0r P e l (k*n)
   if k<len then some { val:=y,na } else none
  | _,_=>none
 | .binOp op t x y _=>do
  let a ←Jy s x
  let b ←Jy s y
  if a.okn (fun _=>false)&&b.okn (fun _=>false) then some { val:=.v false [.m na 1],rq:=some (.bin op t a b (.v false [.m na 1])),na:=na+1 } else none
 | .unOp op _ x=>match (Jy s x).bind (Zu ρ) with
  | some b=>match Zi P (Op.unary op (.bool b)) with
   | some v=>(Pz v).map fun y=>{ val:=y,na }
   | none=>none
  | none=>none
 | .extract x i=>match Jy s x with
  | some (.tup l)=>(l[i]?).map fun y=>{ val:=.v y.1 y.2,na }
  | _=>none
 | .nilCheck x=>match Jy s x with
  | some (.v false [.p b f])=>some { val:=.v false [.p b f],na }
  | _=>none
 | .call c=>match c.callee with
  | .value (.func f)=>B1g P g na s f c.args.toList
  | _=>none
 | _=>none
def C0u (P:Program) (g:TypeId→Option (List Nat)) (ρ:List Av) (nm na:Nat) (s:St) (o:Oper):Option SEv:=
 if A6d s o=true then B2z P na s o else C7q P g ρ nm na s o
def upN (μ:Nat→Nat) (n v:Nat):Nat→Nat:=fun b=>if b=n then v else μ b
inductive Eqn where
 | call (f:FuncId) (args:Array Value) (v:Value)
 | bin (op:BinOp) (t:TypeId) (x y v:Value)
def Eqn.Ok (P:Program):Eqn→Prop
 | .call f args v=>∀W,Calls P f args W fun e W'=>e=.returned v∧Below W.heap.size W W'
 | .bin op t x y v=>∀(X Y:Operand) W,(do eqGuard op t X Y x y;binOp op t x y:Sem Value).run P W=.ok v W
def Rq.eqn (ρ:List Av):Rq→Eqn
 | .call f args r=>.call f (args.map (·.val ρ id)).toArray (r.val ρ id)
 | .bin op t x y r=>.bin op t (x.val ρ id) (y.val ρ id) (r.val ρ id)
def Rq.Ok (P:Program) (ρ:List Av) (q:Rq):Prop:=(q.eqn ρ).Ok P
def Us (ρ:List Av) (st:St) (nm:Nat) (ev:SEv) (μ:Nat→Nat) (w:World) (μ':Nat→Nat) (w':World):Prop:=
 match ev.wb with
 | none=>μ'=μ∧Below w.heap.size w w'
 | some (b,T,cs)=>
  (b=nm∧μ'=upN μ nm w.heap.size∧Below w.heap.size w w'∧Bk w' w.heap.size T (cellsL ρ μ' cs))∨
  (b∈ev.rb∧(∃T0 cs0,st.blk b=some (T0,cs0))∧μ'=μ∧w.grownBy w' (some (μ b))∧w'.heap.size=w.heap.size∧Bk w' (μ b) T (cellsL ρ μ cs))
theorem Em {P:Program} {s:Sem Value} {w w':World} {v:Value} (h:s.run P w=.ok v w'):(do pure (Next.value (←s)):Sem Next).run P w=.ok (.value v) w':=by
 simp only[Sem.run_bind,h,Result.andThen_ok];rfl
theorem Sd {ρ:List Av} {μ:Nat→Nat} {x:SV} {l:List Sg} (h:Ve x=some l):(x.val ρ μ).cells=(cellsL ρ μ l).toArray∧(∀v∈cellsL ρ μ l,v.oneCell'=true):=by
 unfold Ve at h;split at h
 ·split at h
  ·rename_i h1;cases h;exact ⟨rfl,A5z ρ μ _ h1⟩
  ·cases h
 ·split at h
  ·rename_i s h1
   cases h;have h2:=Sg.cells_len ρ μ s;rw[h1.1]at h2;obtain⟨u,hu⟩:=List.length_eq_one_iff.1 h2;have h3:=Sg.cells_one ρ μ s h1.2 u (by rw[hu];simp);have h4:cellsL ρ μ [s]=[u]:=by simp[Z6,Dn,hu]
   refine ⟨?_,?_⟩
   ·simp only[SV.val,cv,h4,Bool.false_eq_true,if_false,List.headD_cons];cases u<;>first | rfl | cases h3
   ·rw[h4];intro v hv;rw[List.mem_singleton.1 hv];exact h3
  ·cases h
 ·cases h
theorem Nw {ρ:List Av} {μ:Nat→Nat} {x:SV} {b o:Nat} (h:Qe x=some (b,o)):x.val ρ μ=.pointer (some ⟨μ b,o,none⟩):=by
 unfold Qe at h;split at h
 ·cases h;rfl
 ·cases h
theorem A6q {ρ:List Av} {μ:Nat→Nat} {x:SV} {n:Nat} (h:A8n x=some n):∃k,x.val ρ μ=.int k (n:Int):=by
 unfold A8n at h;split at h
 ·cases h;exact ⟨_,rfl⟩
 ·cases h
theorem A2c {P:Program} {t n:Nat} (h:Qi P t=some n):∃i,P.info? t=some i∧i.size=n:=by
 unfold Qi at h;cases hi:P.info? t with
 | none=>rw[hi]at h;cases h
 | some i=>rw[hi]at h;exact ⟨i,rfl,by simpa using h⟩
theorem Gz {P:Program} {t n:Nat} (h:Qi P t=some n) (w:World):(sizeOf t).run P w=.ok n w:=by
 obtain⟨i,hi,rfl⟩:=A2c h;simp[sizeOf,typeInfo,hi]
theorem A7c {P:Program} {t:Nat} {b:Bool} (h:Xu P t=some b) (w:World):(isAgg t).run P w=.ok b w:=by
 unfold Xu at h;cases hu:P.underlying t with
 | none=>rw[hu]at h;cases h
 | some d=>
  rw[hu]at h;unfold isAgg;simp only[Sem.run_bind];have h1:(underlying t).run P w=.ok d w:=by simp[underlying,hu]
  rw[h1,Result.andThen_ok];cases d<;>cases h<;>rfl
theorem C5q {l:List Sg} (h:l.length=1):∃s,l=[s]:=List.length_eq_one_iff.1 h
theorem D8m {P:Program} {t:Nat} (h:Xu P t=some true):∃d,P.underlying t=some d∧d.isRow=true:=by
 unfold Xu at h;cases hu:P.underlying t with
 | none=>rw[hu]at h;cases h
 | some d=>rw[hu]at h;refine ⟨d,rfl,?_⟩;cases d<;>first | rfl | cases h
theorem A7t {P:Program} {ρ:List Av} {μ:Nat→Nat} {t o:Nat} {l:List Sg} {y:SV} (h:A0r P t l o=some y) (w:World) :
 (part t (cellsL ρ μ l).toArray o).run P w=.ok (y.val ρ μ) w:=by
 unfold A0r at h;cases ha:Xu P t with
 | none=>rw[ha]at h;cases h
 | some a=>
  rw[ha]at h;unfold part;simp only[Sem.run_bind,A7c ha,Result.andThen_ok];cases a with
  | true=>
   simp only[if_true,bind,Option.bind]at h;cases hs:Qi P t with
   | none=>rw[hs]at h;cases h
   | some n=>
    rw[hs]at h;cases hc:A6m l o n with
    | none=>simp only[hc]at h;cases h
    | some x=>
     simp only[hc,Bool.not_true,Bool.false_and,Bool.false_eq_true,if_false,Option.some.injEq]at h;subst h;obtain⟨h1,h2,h3⟩:=Wr (ρ:=ρ) (μ:=μ) hc;simp only[if_true,Sem.run_bind,Gz hs,Result.andThen_ok,SV.val,cv,h1];simp[List.extract_eq_take_drop]
  | false=>
   simp only[Bool.false_eq_true,if_false,bind,Option.bind]at h;cases hc:A6m l o 1 with
   | none=>simp only[hc]at h;cases h
   | some x=>
    simp only[hc,Bool.not_false,Bool.true_and]at h;split at h
    ·cases h
    ·rename_i hx
     have aA:x.length=1:=by simpa using hx
     cases h;obtain⟨s,rfl⟩:=C5q aA;obtain⟨h1,h2,h3⟩:=Wr (ρ:=ρ) (μ:=μ) hc;have h4:o<(cellsL ρ μ l).length:=by rw[Cd];omega
     simp only[Bool.false_eq_true,if_false,List.getElem?_toArray,List.getElem?_eq_getElem h4];simp only[SV.val,cv,Bool.false_eq_true,if_false,h1];rw[List.drop_eq_getElem_cons h4];rfl
section
variable {P : Program} {g : TypeId → Option (List Nat)} {nm na : Nat} {st : St} {ev : SEv} {ρ : List Av} {μ : Nat → Nat} {a : Act} {w : World}
theorem A2h {t f:Nat} {fd:Field} (h:Ri P t f=some fd) (w:World):∃fs,(underlying t).run P w=.ok (.struct fs) w∧fs[f]?=some fd:=by
 unfold Ri at h;split at h
 ·rename_i fs hu
  exact ⟨fs,by simp[underlying,hu],h⟩
 ·cases h
theorem C4n {t f:Nat} {fd:Field} {l:List Sg} {y:SV} (hf:Ri P t f=some fd) (hp:A0r P fd.type l fd.offset=some y) :
 (Instr.field t (.agg (cellsL ρ μ l).toArray) f).run P w=.ok (y.val ρ μ) w:=by
 obtain⟨fs,h1,h2⟩:=A2h hf w;unfold Instr.field;simp only[Sem.run_bind,h1,Result.andThen_ok,h2,asAgg];exact A7t hp w
theorem B4l {t f n b k:Nat} {fd:Field} (hf:Ri P t f=some fd) (hs:Qi P fd.type=some n) (hn:n≠0) :
 (Instr.fieldAt t (.pointer (some ⟨b,k,none⟩)) f).run P w=.ok (.pointer (some ⟨b,k+fd.offset,none⟩)) w:=by
 obtain⟨fs,h1,h2⟩:=A2h hf w;unfold Instr.fieldAt;simp only[Sem.run_bind,h1,Result.andThen_ok,h2,Instr.sureAddr,fieldPlace,Gz hs,if_neg hn];show Result.ok _ _=_;rw[U9]
theorem C3n {t len e n k:Nat} {K:IntKind} {l:List Sg} {y:SV} (hu:P.underlying t=some (.array len e)) (hs:Qi P e=some n) (hp:A0r P e l (k*n)=some y) (hk:k<len) :
 (Instr.index t (.agg (cellsL ρ μ l).toArray) (.int K (k:Int))).run P w=.ok (y.val ρ μ) w:=by
 have h1:(underlying t).run P w=.ok (.array len e) w:=by simp[underlying,hu]
 have h2:(0:Int)≤(k:Int)∧(k:Int)<(len:Int):=by omega
 unfold Instr.index;simp only[Sem.run_bind,asIntOf,Result.andThen_ok,Sem.run_pure,h1];rw[if_pos h2];simp only[Sem.run_bind,Gz hs,Result.andThen_ok,Int.toNat_natCast];exact A7t hp w
theorem B4i {t len e n k b f:Nat} {K:IntKind} (hu:P.underlying t=some (.array len e)) (hs:Qi P e=some n) (hk:k<len) :
 (Instr.indexAt t (.pointer (some ⟨b,f,none⟩)) (.int K (k:Int))).run P w=.ok (.pointer (some ⟨b,f+k*n,none⟩)) w:=by
 have h1:(underlying t).run P w=.ok (.array len e) w:=by simp[underlying,hu]
 have h2:(0:Int)≤(k:Int)∧(k:Int)<(len:Int):=by omega
 unfold Instr.indexAt;simp only[Sem.run_bind,asIntOf,h1,Result.andThen_ok];simp[Instr.sureAddr,h1,Gz hs,h2,hk,U9]
theorem B1f {t e n k b f l q:Nat} {K:IntKind} (hu:P.underlying t=some (.slice e)) (hs:Qi P e=some n) (hk:k<l) :
 (Instr.indexAt t (.slice (some ⟨b,f,none⟩) l q) (.int K (k:Int))).run P w=.ok (.pointer (some ⟨b,f+k*n,none⟩)) w:=by
 have h1:(underlying t).run P w=.ok (.slice e) w:=by simp[underlying,hu]
 have h2:(0:Int)≤(k:Int)∧(k:Int)<(l:Int):=by omega
 unfold Instr.indexAt;simp only[Sem.run_bind,asIntOf,h1,Result.andThen_ok];simp[h1,Gz hs,h2,hk,U9]
theorem B6b {t b f:Nat} {u:Value} (ha:Xu P t=some false) (hc:w.cell? ⟨b,f,none⟩=some u) :
 (Instr.loadAt t (.pointer (some ⟨b,f,none⟩))).run P w=.ok u w:=by
 unfold Instr.loadAt loadVar;simp only[Sem.run_bind,Instr.sureAddr,A7c ha,Result.andThen_ok];show Sem.run P (.load .plain ⟨b,f,none⟩ .pure) w=_;simp only[Sem.run,hc]
theorem A7u {t b f n T:Nat} {cs l:List Sg} {x:Bool} (hb:Bk w (μ b) T (cellsL ρ μ cs)) (hs:Qi P t=some n) (ha:Xu P t=some x) (hc:A6m cs f n=some l) (hn:n≠0)
 (h1:x=false→l.length=1∧n=1):(Instr.loadAt t (.pointer (some ⟨μ b,f,none⟩))).run P w=.ok (cv ρ μ x l) w:=by
 obtain⟨h2,h3,h4⟩:=Wr (ρ:=ρ) (μ:=μ) hc;cases x with
 | false=>
  obtain⟨h5,rfl⟩:=h1 rfl;have h6:f<(cellsL ρ μ cs).length:=by rw[Cd];omega
  refine B6b ha ?_;rw[hb.cell,List.getElem?_eq_getElem h6];simp only[cv,Bool.false_eq_true,if_false,h2];rw[List.drop_eq_getElem_cons h6];rfl
 | true=>
  obtain⟨d,hu,hd⟩:=D8m ha;obtain⟨i,hi,rfl⟩:=A2c hs;have hr:=hb.row (o:=f) (n:=i.size) (by rw[Cd];exact h4);rw[←h2]at hr;obtain⟨hl,aA⟩:=Cc.1 hr;have h5:=run_loadAt_mid (P:=P) w (μ b) f t (cellsL ρ μ l) d aA hu hd (by rw[hi,hl];rfl);simp only[cv,if_true];exact h5
theorem C0h {t b f n T:Nat} {cs cs' l:List Sg} {v:Value} (hb:Bk w (μ b) T (cellsL ρ μ cs)) (hs:Qi P t=some n) (hv:v.cells=(cellsL ρ μ l).toArray) (ho:∀u∈cellsL ρ μ l,u.oneCell'=true)
 (hc:C6f cs f l=some cs') (hn:Jo l=n) (hn0:n≠0) :
 (Instr.storeAt t (.pointer (some ⟨μ b,f,none⟩)) v).run P w=.ok () (C4 w ⟨μ b,f,none⟩ (cellsL ρ μ l))∧Bk (C4 w ⟨μ b,f,none⟩ (cellsL ρ μ l)) (μ b) T (cellsL ρ μ cs'):=by
 obtain⟨h2,h3,h4⟩:=A3r (ρ:=ρ) (μ:=μ) hc;obtain⟨i,hi,rfl⟩:=A2c hs;have aA:f+(cellsL ρ μ l).length≤(cellsL ρ μ cs).length:=by rw[Cd,Cd];exact h4
 refine ⟨?_,?_⟩
 ·have h5:(cellsL ρ μ l).toArray.size=i.size:=by simp[Cd,hn]
  have h6:=run_storeAt_mid (P:=P) w (μ b) f t (cellsL ρ μ l).toArray (Th.1 (hb.can (by simpa using aA))) (by rw[hi,h5];rfl) (by simpa [List.all_eq_true] using ho);have h7:Instr.storeAt t (.pointer (some ⟨μ b,f,none⟩)) v=Instr.storeAt t (.pointer (some ⟨μ b,f,none⟩)) (.agg (cellsL ρ μ l).toArray):=by unfold Instr.storeAt storeVar;rw[hv];rfl
  rw[h7];exact h6
 ·rw[h2];exact hb.put aA
theorem C6v {x:SV} {l:List Sg} {N:Nat→Bool} (h:Ve x=some l) (hx:x.okn N=true):l.all (·.okn N)=true:=by
 unfold Ve at h;split at h
 ·split at h
  ·cases h;exact hx
  ·cases h
 ·split at h
  ·cases h;exact hx
  ·cases h
 ·cases h
theorem C9n {μ:Nat→Nat} {n v b:Nat} (h:(b != n)=true):μ b=upN μ n v b:=by
 unfold upN;rw[if_neg (by simpa using h)]
theorem B2x (μ:Nat→Nat) (n v:Nat):upN μ n v n=v:=by unfold upN;rw[if_pos rfl]
theorem C3q {xs:List Operand} {ys:List SV} (h:xs.mapM (Jy st)=some ys) (hR:∀x∈xs,∀s,Jy st x=some s→a.eval x=s.val ρ μ) :
 xs.map a.eval=ys.map (·.val ρ μ):=by
 induction xs generalizing ys with
 | nil=>simp at h;subst h;rfl
 | cons x xs ih=>
  simp only[List.mapM_cons,bind,Option.bind]at h;cases hx:Jy st x with
  | none=>rw[hx]at h;cases h
  | some y=>
   rw[hx]at h;simp only at h;cases hxs:xs.mapM (Jy st) with
   | none=>rw[hxs]at h;cases h
   | some zs=>
    rw[hxs]at h;cases h;rw[List.map_cons,List.map_cons,hR x (by simp) y hx,ih hxs fun x' hx'=>hR x' (by simp[hx'])]
theorem D4x {ys:List SV} (h:ys.all (·.okn fun _=>false)=true):ys.map (·.val ρ μ)=ys.map (·.val ρ id):=
 List.map_congr_left fun y hy=>SV.val_congr (N:=fun _=>false) (fun b hb=>by cases hb) (List.all_eq_true.1 h y hy)
theorem C5o {f:FuncId} (h:D2j P f=true) (args:Array Value):(callFunc f args).run P w=.ok (.enter f args) w:=by
 unfold D2j at h;cases hf:P.funcs[f]? with
 | none=>rw[hf]at h;cases h
 | some fn=>
  rw[hf]at h;simp only[Bool.and_eq_true,Bool.not_eq_true']at h;obtain⟨h1,h2⟩:=h;have h3 : fn.name ≠ "runtime.NumGoroutine" := by simpa using h1
  obtain⟨c,hc⟩:=Option.isSome_iff_exists.1 h2;simp[callFunc,hf,h3,hc]
theorem A2w {na:Nat} {t:TypeId} {x:(Bool×List Sg)×Nat} (h:Zq P g na t=some x) (N:Nat→Bool):x.1.2.all (·.okn N)=true:=by
 unfold Zq at h;simp only[bind,Option.bind]at h;cases ha:Xu P t with
 | none=>rw[ha]at h;cases h
 | some a=>
  rw[ha]at h;simp only at h;split at h
  ·cases h;simp[Sg.okn]
  ·cases hs:Qi P t with
   | none=>rw[hs]at h;cases h
   | some n=>rw[hs]at h;cases h;simp[Sg.okn]
theorem Vz:∀ {ts:List TypeId} {na:Nat} {x:List (Bool×List Sg)×Nat},Wd P g na ts=some x→∀(N:Nat→Bool),(x.1.all fun y=>y.2.all (·.okn N))=true
 | [],na,x,h,N=>by cases h;rfl
 | t::ts,na,x,h,N=>by
  simp only[Wd,bind,Option.bind]at h;cases h1:Zq P g na t with
  | none=>rw[h1]at h;cases h
  | some y=>
   rw[h1]at h;simp only at h;cases h2:Wd P g y.2 ts with
   | none=>rw[h2]at h;cases h
   | some z=>
    rw[h2]at h;cases h;simp only[List.all_cons,Bool.and_eq_true];exact ⟨A2w h1 N,Vz h2 N⟩
theorem B7j {f:FuncId} {K:Act→World→Prop} {Q:Exit→Act→World→Prop} {o:Oper} {c:Call} (ho:o.op=.call c) (hcal:c.callee=.value (.func f))
 (h:B1g P g na st f c.args.toList=some ev) (hR:∀x∈c.args.toList,∀s,Jy st x=some s→a.eval x=s.val ρ μ) (hq:∀q,ev.rq=some q→q.Ok P ρ)
 (hK:ev.wb=none→∀w',Below w.heap.size w w'→K (a.put o.dst (ev.val.val ρ μ)) w'):o.wp P a w K Q:=by
 unfold B1g at h;simp only[bind,Option.bind]at h;cases hxs:c.args.toList.mapM (Jy st) with
 | none=>rw[hxs]at h;cases h
 | some ys=>
  rw[hxs]at h;simp only at h;cases hf:P.funcs[f]? with
  | none=>rw[hf]at h;cases h
  | some fn=>
   rw[hf]at h;simp only at h;split at h
   ·cases h
   ·rename_i hcond
    simp only[Bool.or_eq_true,Bool.not_eq_true',not_or,Bool.not_eq_false]at hcond;have hv:=C3q hxs hR;rw[D4x hcond.2]at hv;have aA:∀r:SV,ev.rq=some (.call f ys r)→ev.val=r→r.okn (fun _=>false)=true→ev.wb=none→o.wp P a w K Q:=by
     intro r h1 h2 h3 h4;have h5:=hq _ h1 w;unfold Oper.wp;have h6:(execOp a.eval o).run P w=.ok (.enter f (ys.map (·.val ρ id)).toArray) w:=by
      have h7:c.args.map a.eval=(ys.map (·.val ρ id)).toArray:=by rw[←hv,←List.map_toArray]
      have h8:=C5o (w:=w) hcond.1 (ys.map (·.val ρ id)).toArray;unfold execOp;rw[ho];simp only[resolve,hcal,h7];show ((Deferred.ofValue (.func (.func f) #[] #[]) (ys.map (·.val ρ id)).toArray).bind fun d=>invoke d.target d.args).run P w=_;show (callFunc f ((#[]++(ys.map (·.val ρ id)).toArray) ++ #[])).run P w=_;simpa using h8
     rw[h6,Oper.upon_enter];refine h5.mono fun e w' ⟨he,hb⟩=>?_;subst he;have h9:=hK h4 w' hb;rw[h2,SV.val_congr (μ:=μ) (μ':=id) (N:=fun _=>false) (fun b hb=>by cases hb) h3]at h9;exact h9
    split at h
    ·cases h;exact aA _ rfl rfl rfl rfl
    ·rename_i t _
     cases h1:Zq P g na t with
     | none=>rw[h1]at h;cases h
     | some x=>rw[h1]at h;cases h;exact aA _ rfl rfl (A2w h1 _) rfl
    ·rename_i ts _ _
     cases h1:Wd P g na fn.resultTypes.toList with
     | none=>simp only[h1]at h;cases h
     | some x=>simp only[h1]at h;cases h;exact aA _ rfl rfl (Vz h1 _) rfl
theorem A8q (o:Nat):∀(l:List Value) (k:Nat) (cs:Array Value),o+k+l.length≤cs.size→
 (l.zipIdx k).foldl (fun cs x=>cs.setIfInBounds (o+x.2) x.1) cs=(cs.toList.take (o+k)++l++cs.toList.drop (o+k+l.length)).toArray
 | [],k,cs,h=>by simp
 | v::l,k,cs,h=>by
  simp only[List.zipIdx_cons,List.foldl_cons];simp only[List.length_cons]at h;rw[A8q o l (k+1) _ (by simp;omega)];have hk:o+k<cs.toList.length:=by simp;omega
  congr 1;simp only[Array.toList_setIfInBounds,List.length_cons];rw[show o+(k+1)=o+k+1 by omega,List.take_add_one,List.take_set_of_le (Nat.le_refl _),List.getElem?_set_self hk,List.drop_set_of_lt (by omega)];rw[show o+k+1+l.length=o+k+(l.length+1) by omega];simp
theorem Wh {plc:Nat→Option (Nat×Nat)} {place:Nat→Option (Nat×Nat)} (hpl:∀i r,plc i=some r→place i=some r):∀(ps:List (Nat×Operand)) (l l':List Sg),A8d plc st l ps=some l'→
 (∀p∈ps,∀s,Jy st p.2=some s→a.eval p.2=s.val ρ μ)→Instr.fill place (cellsL ρ μ l).toArray (ps.map fun p=>(p.1,a.eval p.2))=some (cellsL ρ μ l').toArray
 | [],l,l',h,_=>by cases h;rfl
 | (i,x)::ps,l,l',h,hR=>by
  unfold A8d at h;split at h
  ·rename_i o n y hp hy
   split at h
   ·rename_i hn
    split at h
    ·rename_i l1 hl1
     cases hx:Jy st x with
     | none=>rw[hx]at hy;cases hy
     | some s=>
      rw[hx]at hy;have hv:=hR (i,x) (by simp) s hx;obtain⟨h1,h2⟩:=Sd (ρ:=ρ) (μ:=μ) (show Ve s=some y from hy);obtain⟨h3,h4,h5⟩:=A3r (ρ:=ρ) (μ:=μ) hl1;have ih:=Wh hpl ps l1 l' h fun p hp=>hR p (by simp[hp]);simp only[List.map_cons];unfold Instr.fill;rw[hpl i _ hp];simp only[hv,h1];have aA:(cellsL ρ μ y).toArray.size=n:=by simp[Cd,hn]
      rw[if_neg (by simp[Cd];omega)];have h6:=A8q o (cellsL ρ μ y) 0 (cellsL ρ μ l).toArray (by simp[Cd];omega);have h7:(cellsL ρ μ y).toArray.zipIdx.foldl (fun cs x=>cs.setIfInBounds (o+x.2) x.1) (cellsL ρ μ l).toArray=(cellsL ρ μ l1).toArray:=by
       rw[←Array.foldl_toList];simp only[Array.toList_zipIdx];rw[h6,h3];simp
      have h8:∀(A B:Array Value),A=B→Instr.fill place A (ps.map fun p=>(p.1,a.eval p.2))=some (cellsL ρ μ l').toArray→Instr.fill place B (ps.map fun p=>(p.1,a.eval p.2))=some (cellsL ρ μ l').toArray:=fun A B e hh=>e▸hh;exact h8 _ _ h7.symm ih
    ·cases h
   ·cases h
  ·cases h
theorem B5a {α β:Type} {f:α→Sem β} {r:α→β}:∀(l:List α),(∀x∈l,(f x).run P w=.ok (r x) w)→(l.mapM f).run P w=.ok (l.map r) w
 | [],_=>rfl
 | x::l,h=>by
  simp only[List.mapM_cons,Sem.run_bind,h x (by simp),Result.andThen_ok,B5a l fun y hy=>h y (by simp[hy])];rfl
theorem C5s {t:TypeId} {ps:List (Nat×Operand)} {z:Value} {plc:Nat→Option (Nat×Nat)} {l':List Sg} (hz:(P.info? t).bind (·.zero)=some z) (hp:B8n P t=some plc)
 (hf:A8d plc st (z.cells.toList.map .c) ps=some l') (hR:∀p∈ps,∀s,Jy st p.2=some s→a.eval p.2=s.val ρ μ) :
 (Instr.build t (ps.map fun p=>(p.1,a.eval p.2)).toArray).run P w=.ok (.agg (cellsL ρ μ l').toArray) w:=by
 have h1:(zeroValue t).run P w=.ok z w:=by
  cases hi:P.info? t with
  | none=>rw[hi]at hz;cases hz
  | some i=>
   have aB:i.zero=some z:=by simpa [hi] using hz
   simp[zeroValue,typeInfo,hi,aB]
 unfold B8n at hp;unfold Instr.build;simp only[Sem.run_bind,h1,Result.andThen_ok];have aA:(cellsL ρ μ (z.cells.toList.map .c)).toArray=z.cells:=by rw[Mq]
 split at hp
 ·rename_i fs hu
  split at hp
  ·rename_i hall
   cases hp;have h2:(underlying t).run P w=.ok (.struct fs) w:=by simp[underlying,hu]
   have h3:∀f∈fs.toList,(do pure (f.offset,←sizeOf f.type):Sem (Nat×Nat)).run P w=.ok (f.offset,(Qi P f.type).getD 0) w:=by intro f hf;have:=List.all_eq_true.1 hall f hf;obtain⟨n,hn⟩:=Option.isSome_iff_exists.1 this;simp only[Sem.run_bind,Gz hn,Result.andThen_ok,hn];rfl
   have h4:=B5a (P:=P) (w:=w) (f:=fun f=>(do pure (f.offset,←sizeOf f.type):Sem (Nat×Nat))) (r:=fun f=>(f.offset,(Qi P f.type).getD 0)) fs.toList h3;have h5:(fs.mapM fun f=>(do pure (f.offset,←sizeOf f.type):Sem (Nat×Nat))).run P w=.ok (fs.map fun f=>(f.offset,(Qi P f.type).getD 0)) w:=by rw[Array.mapM_eq_mapM_toList];simp only[map_eq_pure_bind,Sem.run_bind,h4,Result.andThen_ok];simp;rw[←Array.toList_map,Array.toArray_toList]
   simp only[h2,Result.andThen_ok,Sem.run_bind,h5];have h6:=Wh (a:=a) (place:=fun i=>(fs.map fun f=>(f.offset,(Qi P f.type).getD 0))[i]?) (plc:=fun i=>(fs[i]?).bind fun f=>(Qi P f.type).map fun n=>(f.offset,n)) (by
    intro i r h;cases hfi:fs[i]? with
    | none=>rw[hfi]at h;cases h
    | some f=>
     rw[hfi]at h;simp only[Option.bind_some,Option.map_eq_some_iff]at h;obtain⟨n,hn,rfl⟩:=h;simp[hfi,hn]) ps _ l' hf hR
   rw[aA]at h6;rw[h6];rfl
  ·cases hp
 ·rename_i len e hu
  cases hs:Qi P e with
  | none=>rw[hs]at hp;cases hp
  | some n=>
   rw[hs]at hp;cases hp;have h2:(underlying t).run P w=.ok (.array len e) w:=by simp[underlying,hu]
   simp only[h2,Result.andThen_ok,Sem.run_bind,Gz hs];have h6:=Wh (a:=a) (place:=fun i=>some (i*n,n)) (plc:=fun i=>some (i*n,n)) (fun i r h=>h) ps _ l' hf hR;rw[aA]at h6;rw[h6];rfl
 ·cases hp
end
section
variable {P : Program} {g : TypeId → Option (List Nat)} {nm na : Nat} {st : St} {ev : SEv} {ρ : List Av} {μ : Nat → Nat} {a : Act} {w : World}
theorem C5g {x:Operand} {v:Value} (h:Qy st x=some v) (hR:∀s,Jy st x=some s→a.eval x=s.val ρ μ):a.eval x=v:=by
 unfold Qy at h;cases ho:Jy st x with
 | none=>rw[ho]at h;cases h
 | some s=>rw[ho]at h;rw[hR s ho];exact B6q h
theorem B4m {o:Oper} {K:Act→World→Prop} {Q:Exit→Act→World→Prop} (h:C0u P g ρ nm na st o=some ev)
 (hR:∀x∈o.op.operands.toList,∀s,Jy st x=some s→a.eval x=s.val ρ μ)
 (hN:∀x∈o.op.operands.toList,∀s,Jy st x=some s→s.okn (fun b=>b != nm)=true)
 (hB:∀b∈ev.rb,∀T cs,st.blk b=some (T,cs)→Bk w (μ b) T (cellsL ρ μ cs))
 (hq:∀q,ev.rq=some q→q.Ok P ρ)
 (hK:∀μ' w',Us ρ st nm ev μ w μ' w'→K (a.put o.dst (ev.val.val ρ μ')) w'):o.wp P a w K Q:=by
 have aA:(execOp a.eval o).run P w=.ok (.value (ev.val.val ρ μ)) w→ev.wb=none→o.wp P a w K Q:=by intro h1 h3;unfold Oper.wp;rw[h1];exact hK μ w (by unfold Us;rw[h3];exact ⟨rfl,Below.refl _ _⟩)
 have aB:∀T cs,(execOp a.eval o).run P w=.ok (.value (.pointer (some ⟨w.heap.size,0,none⟩))) (w.alloc (.cells (cellsL ρ μ cs).toArray T))→ev.val=.v false [.p nm 0]→ev.wb=some (nm,T,cs)→
  cs.all (·.okn (fun b=>b != nm))=true→o.wp P a w K Q:=by
  intro T cs h1 h2 h3 h4;unfold Oper.wp;rw[h1];have h5:cellsL ρ μ cs=cellsL ρ (upN μ nm w.heap.size) cs:=Kt (fun b hb=>C9n hb) h4;have h6:=hK (upN μ nm w.heap.size) (w.alloc (.cells (cellsL ρ μ cs).toArray T)) (by
   unfold Us;rw[h3];exact .inl ⟨rfl,rfl,Bh _ _,by rw[←h5];exact Bk.new w T _⟩)
  rw[h2]at h6;simp only[SV.val,cv,Bool.false_eq_true,if_false,Z6,Dn,Sg.cells,B2x,List.append_nil,List.headD_cons]at h6;exact h6
 unfold C0u at h;by_cases hc:A6d st o=true
 ·rw[if_pos hc]at h;unfold A6d at hc;simp only[Bool.and_eq_true,List.all_eq_true]at hc;have aD:∀cs b,o.op≠.select cs b:=by intro cs b hb;rw[hb]at hc;cases hc.1
  have h1:execOp a.eval o=execOp (fun x=>(Qy st x).getD undef) o:=by refine execOp_congr o aD fun x hx=>?_;have h2:=hc.2 x (by simpa using hx);obtain⟨v,hv⟩:=Option.isSome_iff_exists.1 h2;rw[C5g hv (hR x (by simpa using hx)),hv];rfl
  unfold B2z at h;split at h
  ·rename_i v hv
   cases hcv:Pz v with
   | none=>rw[hcv]at h;cases h
   | some x=>
    rw[hcv]at h;cases h;refine aA ?_ rfl;rw[h1,Vx hv w,Oh hcv]
  ·cases h
 ·rw[if_neg hc]at h;clear hc;unfold C7q at h;obtain⟨dst,op,ty,pos,after,guard⟩:=o;simp only at h hR hN;cases op<;>simp only at h;case move x=>
   cases hx:Jy st x with
   | none=>rw[hx]at h;cases h
   | some s=>rw[hx]at h;cases h;exact aA (by simp only[execOp];rw[hR x (by simp[Op.operands]) s hx];rfl) rfl
  case assign x=>
   cases hx:Jy st x with
   | none=>rw[hx]at h;cases h
   | some s=>rw[hx]at h;cases h;exact aA (by simp only[execOp];rw[hR x (by simp[Op.operands]) s hx];rfl) rfl
  case pick c x y=>
   split at h
   ·rename_i b hb
    cases hc:Jy st c with
    | none=>rw[hc]at hb;cases hb
    | some sc=>
     rw[hc]at hb;have h2:a.eval c=.bool b:=(hR c (by simp[Op.operands]) _ hc).trans (Oe hb);cases hx:Jy st (if b then x else y) with
     | none=>rw[hx]at h;cases h
     | some s=>
      rw[hx]at h;cases h;refine aA ?_ rfl;simp only[execOp,h2,asBool];cases b
      ·simp only[Bool.false_eq_true,if_false]at hx;rw[←hR y (by simp[Op.operands]) s hx];rfl
      ·simp only[if_true]at hx;rw[←hR x (by simp[Op.operands]) s hx];rfl
   ·cases h
  case alloc t=>
   split at h
   ·rename_i z hz
    split at h
    ·rename_i h1
     cases h;refine aB t (z.cells.toList.map .c) ?_ rfl rfl (by simp[Sg.okn]);rw[Mq,Array.toArray_toList];exact O9 w _ _ _ _ _ _ t z hz
    ·cases h
   ·cases h
  case box t x=>
   cases hx:Jy st x with
   | none=>rw[hx]at h;cases h
   | some s=>
    rw[hx]at h;simp only[Option.bind_some]at h;cases hl:Ve s with
    | none=>rw[hl]at h;cases h
    | some l=>
     rw[hl]at h;cases h;refine aB t l ?_ rfl rfl (C6v hl (hN x (by simp[Op.operands]) s hx));simp only[execOp];rw[hR x (by simp[Op.operands]) s hx];refine Em (v:=.pointer (some ⟨w.heap.size,0,none⟩)) ?_;simp[Instr.box,newVar,newRow,newObj,(Sd (ρ:=ρ) (μ:=μ) hl).1];rfl
  case build t ps=>
   split at h
   ·rename_i z plc hz hp
    split at h
    ·cases hl:A8d plc st (z.cells.toList.map .c) ps.toList with
     | none=>rw[hl]at h;cases h
     | some l=>
      rw[hl]at h;cases h;refine aA ?_ rfl;simp only[execOp];refine Em ?_;have aE:∀p∈ps.toList,p.2∈(Op.build t ps).operands.toList:=fun p hp=>by
       show p.2∈((ps.toList.map (·.2)).toArray).toList;exact List.mem_map_of_mem (f:=fun x:Nat×Operand=>x.2) hp
      have h1:=C5s (a:=a) (w:=w) hz hp hl fun p hp s hs=>hR p.2 (aE p hp) s hs;have e:(ps.toList.map fun p=>(p.1,a.eval p.2)).toArray=ps.map fun p=>(p.1,a.eval p.2):=by rw[←Array.toList_map,Array.toArray_toList]
      rw[e]at h1;exact h1
    ·cases h
   ·cases h
  case load t x=>
   simp only[bind,Option.bind]at h;cases hx:Jy st x with
   | none=>rw[hx]at h;cases h
   | some s=>
    rw[hx]at h;simp only at h;cases hp:Qe s with
    | none=>rw[hp]at h;cases h
    | some bf=>
     obtain⟨b,f⟩:=bf;rw[hp]at h;simp only at h;cases hb:st.blk b with
     | none=>rw[hb]at h;cases h
     | some Tc=>
      obtain⟨T,cs⟩:=Tc;rw[hb]at h;simp only at h;cases hs:Qi P t with
      | none=>rw[hs]at h;cases h
      | some n=>
       rw[hs]at h;simp only at h;cases ha:Xu P t with
       | none=>rw[ha]at h;cases h
       | some ag=>
        rw[ha]at h;simp only at h;cases hc:A6m cs f n with
        | none=>rw[hc]at h;cases h
        | some l=>
         rw[hc]at h;simp only at h;split at h
         ·cases h
         ·rename_i hcond
          cases h;refine aA ?_ rfl;simp only[execOp];rw[hR x (by simp[Op.operands]) s hx,Nw hp];refine Em (A7u (hB b (by simp) T cs hb) hs ha hc ?_ ?_)
          ·intro h0;subst h0;simp at hcond
          ·intro h0;subst h0;simp at hcond;exact ⟨hcond.1.1,hcond.2⟩
  case store t x y=>
   simp only[bind,Option.bind]at h;cases hx:Jy st x with
   | none=>rw[hx]at h;cases h
   | some s=>
    rw[hx]at h;simp only at h;cases hp:Qe s with
    | none=>rw[hp]at h;cases h
    | some bf=>
     obtain⟨b,f⟩:=bf;rw[hp]at h;simp only at h;cases hb:st.blk b with
     | none=>rw[hb]at h;cases h
     | some Tc=>
      obtain⟨T,cs⟩:=Tc;rw[hb]at h;simp only at h;cases hy:Jy st y with
      | none=>rw[hy]at h;cases h
      | some sy=>
       rw[hy]at h;simp only at h;cases hl:Ve sy with
       | none=>rw[hl]at h;cases h
       | some l=>
        rw[hl]at h;simp only at h;cases hs:Qi P t with
        | none=>rw[hs]at h;cases h
        | some n=>
         rw[hs]at h;simp only at h;cases hc:C6f cs f l with
         | none=>rw[hc]at h;cases h
         | some cs'=>
          rw[hc]at h;simp only at h;split at h
          ·cases h
          ·rename_i hcond
           cases h;simp only[Bool.or_eq_true,bne_iff_ne,ne_eq,beq_iff_eq,not_or,Decidable.not_not]at hcond;obtain⟨hv,ho⟩:=Sd (ρ:=ρ) (μ:=μ) hl;obtain⟨h1,h2⟩:=C0h (hB b (by simp) T cs hb) hs hv ho hc hcond.1.1 hcond.1.2;unfold Oper.wp;simp only[execOp];rw[hR x (by simp[Op.operands]) s hx,Nw hp,hR y (by simp[Op.operands]) sy hy];simp only[Sem.run_bind,h1,Result.andThen_ok];refine hK μ _ ?_;unfold Us;refine .inr ⟨by simp,⟨T,cs,hb⟩,rfl,?_,B7p _ _ _,h2⟩;have h3:=C0 (Below.refl 0 w) (Nat.zero_le _) (a:=⟨μ b,f,none⟩) (cellsL ρ μ l);exact ⟨h3.os,h3.tape,h3.output,h3.size,fun k hk hne=>De _ _ _ _ _ (fun e=>hne (by rw[e]))⟩
  case fieldAddr t x f=>
   simp only[bind,Option.bind]at h;cases hx:Jy st x with
   | none=>rw[hx]at h;cases h
   | some s=>
    rw[hx]at h;simp only at h;cases hp:Qe s with
    | none=>rw[hp]at h;cases h
    | some bf=>
     obtain⟨b,k⟩:=bf;rw[hp]at h;simp only at h;cases hf:Ri P t f with
     | none=>rw[hf]at h;cases h
     | some fd=>
      rw[hf]at h;simp only at h;cases hs:Qi P fd.type with
      | none=>rw[hs]at h;cases h
      | some n=>
       rw[hs]at h;simp only at h;split at h
       ·cases h
       ·rename_i hn
        cases h;refine aA ?_ rfl;simp only[execOp];rw[hR x (by simp[Op.operands]) s hx,Nw hp];exact Em (B4l hf hs (by simpa using hn))
  case field t x f=>
   split at h
   ·rename_i l hx
    simp only[bind,Option.bind]at h;cases hf:Ri P t f with
    | none=>rw[hf]at h;cases h
    | some fd=>
     rw[hf]at h;simp only at h;cases hp:A0r P fd.type l fd.offset with
     | none=>rw[hp]at h;cases h
     | some y=>
      rw[hp]at h;cases h;refine aA ?_ rfl;simp only[execOp];rw[hR x (by simp[Op.operands]) _ hx];exact Em (C4n hf hp)
   ·cases h
  case indexAddr t x i=>
   simp only[bind,Option.bind]at h;cases hi:Jy st i with
   | none=>rw[hi]at h;cases h
   | some si=>
    rw[hi]at h;simp only at h;cases hk:A8n si with
    | none=>rw[hk]at h;cases h
    | some k=>
     rw[hk]at h;simp only at h;obtain⟨IK,aC⟩:=A6q (ρ:=ρ) (μ:=μ) hk;split at h
     ·rename_i len e hu
      cases hx:Jy st x with
      | none=>rw[hx]at h;cases h
      | some s=>
       rw[hx]at h;simp only at h;cases hp:Qe s with
       | none=>rw[hp]at h;cases h
       | some bf=>
        obtain⟨b,f⟩:=bf;rw[hp]at h;simp only at h;cases hs:Qi P e with
        | none=>rw[hs]at h;cases h
        | some n=>
         rw[hs]at h;simp only at h;split at h
         ·rename_i hlt
          cases h;refine aA ?_ rfl;simp only[execOp];rw[hR x (by simp[Op.operands]) s hx,Nw hp,hR i (by simp[Op.operands]) si hi,aC];exact Em (B4i hu hs hlt)
         ·cases h
     ·rename_i e hu
      split at h
      ·rename_i b f l q hx
       cases hs:Qi P e with
       | none=>rw[hs]at h;cases h
       | some n=>
        rw[hs]at h;simp only at h;split at h
        ·rename_i hlt
         cases h;refine aA ?_ rfl;simp only[execOp];rw[hR x (by simp[Op.operands]) _ hx,hR i (by simp[Op.operands]) si hi,aC];exact Em (B1f hu hs hlt)
        ·cases h
      ·cases h
     ·cases h
  case index t x i=>
   simp only[bind,Option.bind]at h;cases hi:Jy st i with
   | none=>rw[hi]at h;cases h
   | some si=>
    rw[hi]at h;simp only at h;cases hk:A8n si with
    | none=>rw[hk]at h;cases h
    | some k=>
     rw[hk]at h;simp only at h;obtain⟨IK,aC⟩:=A6q (ρ:=ρ) (μ:=μ) hk;split at h
     ·rename_i len e l hu hx
      cases hs:Qi P e with
      | none=>rw[hs]at h;cases h
      | some n=>
       rw[hs]at h;simp only at h;cases hp:A0r P e l (k*n) with
       | none=>rw[hp]at h;cases h
       | some y=>
        rw[hp]at h;simp only at h;split at h
        ·rename_i hlt
         cases h;refine aA ?_ rfl;simp only[execOp];rw[hR x (by simp[Op.operands]) _ hx,hR i (by simp[Op.operands]) si hi,aC];exact Em (C3n hu hs hp hlt)
        ·cases h
     ·cases h
  case binOp op t x y yt=>
   simp only[bind,Option.bind]at h;cases hx:Jy st x with
   | none=>rw[hx]at h;cases h
   | some sx=>
    rw[hx]at h;simp only at h;cases hy:Jy st y with
    | none=>rw[hy]at h;cases h
    | some sy=>
     rw[hy]at h;simp only at h;split at h
     ·rename_i hn
      simp only[Bool.and_eq_true]at hn;cases h;have aF:∀ {z:SV},z.okn (fun _=>false)=true→z.val ρ μ=z.val ρ id:=fun hz=>SV.val_congr (N:=fun _=>false) (fun b hb=>by cases hb) hz;have h1:=hq _ rfl x y w;refine aA ?_ rfl;simp only[execOp];rw[hR x (by simp[Op.operands]) sx hx,hR y (by simp[Op.operands]) sy hy,aF hn.1,aF hn.2];exact Em h1
     ·cases h
  case unOp op t x=>
   split at h
   ·rename_i b hb
    cases hx:Jy st x with
    | none=>rw[hx]at hb;cases hb
    | some sx=>
     rw[hx]at hb;have h2:a.eval x=.bool b:=(hR x (by simp[Op.operands]) _ hx).trans (Oe hb);split at h
     ·rename_i v hv
      cases hcv:Pz v with
      | none=>rw[hcv]at h;cases h
      | some y=>
       rw[hcv]at h;cases h;refine aA ?_ rfl;simp only[execOp,h2];exact Em ((Vx hv w).trans (by rw[←Oh hcv]))
     ·cases h
   ·cases h
  case extract x i=>
   split at h
   ·rename_i l hx
    cases hl:l[i]? with
    | none=>rw[hl]at h;cases h
    | some y=>
     rw[hl]at h;cases h;refine aA ?_ rfl;simp only[execOp];rw[hR x (by simp[Op.operands]) _ hx];refine Em ?_;simp[Instr.extract,SV.val,hl]
   ·cases h
  case nilCheck x=>
   split at h
   ·rename_i b f hx
    cases h;refine aA ?_ rfl;simp only[execOp];rw[hR x (by simp[Op.operands]) _ hx];rfl
   ·cases h
  case call c=>
   split at h
   ·rename_i f hf
    have h1:=B7j (K:=K) (Q:=Q) (w:=w) (o:=⟨dst,.call c,ty,pos,after,guard⟩) rfl hf h (fun x hx s hs=>hR x (by simp[Op.operands,Call.operands];right;simpa using hx) s hs) hq;exact h1 fun h2 w' hw=>hK μ w' (by unfold Us;rw[h2];exact ⟨rfl,hw⟩)
   ·cases h
  all_goals (cases h)
end
end Go.Proofs.YtlegpkdighoflaaGreat
