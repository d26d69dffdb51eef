/- The theory: texts of the dev place in one; each part's head says what it holds. -/
import Derived.KernelRfl
import Derived.Test.YtmglkghngkbioaaGreatDoorPayC48
/- The parser of rule sets, plainly: what it makes of tokens. -/
section
set_option linter.unusedSimpArgs false
set_option linter.unusedVariables false
namespace Pay
structure Rul where
  kind:List UInt8
  name:List UInt8
  root:Int
  deriving DecidableEq
structure Xpr where
  op:List UInt8
  name:List UInt8
  val:Int
  a:Int
  b:Int
  c:Int
  deriving DecidableEq
def encX (x:Xpr):List D:=[.str x.op,.str x.name,dI x.val,dI x.a,dI x.b,dI x.c]
def encRl (r:Rul):List D:=[.str r.kind,.str r.name,dI r.root]
abbrev wEarn:List UInt8:=[101,97,114,110]
abbrev wPretax:List UInt8:=[112,114,101,116,97,120]
abbrev wPost:List UInt8:=[112,111,115,116]
abbrev wLet:List UInt8:=[108,101,116]
abbrev wIf:List UInt8:=[105,102]
abbrev wThen:List UInt8:=[116,104,101,110]
abbrev wElse:List UInt8:=[101,108,115,101]
abbrev wMin:List UInt8:=[109,105,110]
abbrev wMax:List UInt8:=[109,97,120]
abbrev wNeg:List UInt8:=[110,101,103]
abbrev wWhole:List UInt8:=[119,104,111,108,101]
abbrev wAmount:List UInt8:=[97,109,111,117,110,116]
abbrev wRate:List UInt8:=[114,97,116,101]
abbrev wName:List UInt8:=[110,97,109,101]
abbrev kindsL:List (List UInt8):=[wEarn,wPretax,wPost,wLet]
abbrev takenL:List (List UInt8):=[wEarn,wPretax,wPost,wLet,wIf,wThen,wElse,wMin,wMax]
abbrev cmpL:List (List UInt8):=[[60],[60,61],[61],[60,62],[62],[62,61]]
abbrev sumL:List (List UInt8):=[[43],[45]]
abbrev mulL:List (List UInt8):=[[42]]
def namedB (s:List UInt8):Bool := !takenL.contains s
def valW (t:List UInt8):Int:=atoiV t
def amtV (t:List UInt8):Int:=(parseS t).1
def rateV (t:List UInt8):Int:=(rateP t).1
structure PS where
  ts:List Tok
  rules:List Rul
  exprs:List Xpr
  err:Int
  place:Int
abbrev PS.go (x:PS) (r:List Tok):PS:=⟨r,x.rules,x.exprs,x.err,x.place⟩
def posT (en:Nat):List Tok→Int
  | []=>en
  | t::_=>t.pos
def failS (en:Nat)(e:Int)(x:PS):PS:=if x.err=0 then { x with err:=e,place:=posT en x.ts } else x
def signT (t:Tok):Bool:=t.kind==1||t.kind==5
def takeT (l:List (List UInt8)) (x:PS):Option (List UInt8 × PS) :=
  if x.err=0 then match x.ts with
    | []=>none
    | t::r=>if signT t=true∧l.contains t.text=true then some (t.text,(x.go r)) else none
  else none
def needS (en:Nat)(s:List UInt8)(x:PS):PS:=match takeT [s] x with
  | some (_,y)=>y
  | none=>failS en 2 x
def putS (e:Xpr)(x:PS):PS × Nat:=({ x with exprs:=x.exprs++[e] },x.exprs.length)
abbrev Pr:=PS→PS × Nat
def xLeaf (op nm:List UInt8)(v:Int):Xpr:=⟨op,nm,v,0,0,0⟩
def xNode (op:List UInt8)(a b c:Nat):Xpr:=⟨op,[],0,a,b,c⟩
def leafX (t:Tok):Option Xpr :=
  if t.kind=1 then (if namedB t.text=true then some (xLeaf wName t.text 0) else none)
  else if t.kind=2 then some (xLeaf wWhole [] (valW t.text))
  else if t.kind=3 then some (xLeaf wAmount [] (amtV t.text))
  else if t.kind=4 then some (xLeaf wRate [] (rateV t.text))
  else none
def leafS (en:Nat):Pr:=fun x=>match x.ts with
  | []=>(failS en 2 x,0)
  | t::r=>(match leafX t with
    | some e=>putS e (x.go r)
    | none=>(failS en 2 x,0))
def chainL (next:Pr) (ops:List (List UInt8)):Nat→PS→Nat→PS × Nat
  | 0,x,a=>(x,a)
  | f+1,x,a=>match takeT ops x with
    | none=>(x,a)
    | some (op,y)=>chainL next ops f (putS (xNode op a (next y).2 0) (next y).1).1 (putS (xNode op a (next y).2 0) (next y).1).2
def chainS (next:Pr)(ops:List (List UInt8)):Pr:=fun x=>chainL next ops (next x).1.ts.length (next x).1 (next x).2
def pairS (en:Nat)(expr:Pr)(op:List UInt8):Pr:=fun x =>
  let a:=expr (needS en [40] x)
  let b:=expr (needS en [44] a.1)
  putS (xNode op a.2 b.2 0) (needS en [41] b.1)
def facStep (en:Nat) (fac expr:Pr):Pr:=fun x =>
  if x.err=0 then match takeT [[45]] x with
    | some (_,y)=>putS (xNode wNeg (fac y).2 0 0) (fac y).1
    | none=>match takeT [wMin,wMax] x with
      | some (op,y)=>pairS en expr op y
      | none=>match takeT [[40]] x with
        | some (_,y)=>(needS en [41] (expr y).1,(expr y).2)
        | none=>leafS en x
  else (x,0)
def prodS (fac:Pr):Pr:=chainS fac mulL
def sumS (fac:Pr):Pr:=chainS (prodS fac) sumL
def iteS (en:Nat)(expr:Pr):Pr:=fun x =>
  let a:=expr x
  let b:=expr (needS en wThen a.1)
  let c:=expr (needS en wElse b.1)
  putS (xNode wIf a.2 b.2 c.2) c.1
def cmpS (sum:Pr):Pr:=fun x=>match takeT cmpL (sum x).1 with
  | some (op,y)=>putS (xNode op (sum x).2 (sum y).2 0) (sum y).1
  | none=>sum x
def exprStep (en:Nat) (fac expr:Pr):Pr:=fun x =>
  if x.err=0 then match takeT [wIf] x with
    | some (_,y)=>iteS en expr y
    | none=>cmpS (sumS fac) x
  else (x,0)
def longS (en:Nat):Pr:=fun x=>(failS en 9 x,0)
def prs (en:Nat):Nat→Pr × Pr
  | 0=>(longS en,longS en)
  | d+1=>(facStep en (prs en d).1 (prs en d).2,exprStep en (facStep en (prs en d).1 (prs en d).2) (prs en d).2)
def facP (en d:Nat):Pr:=(prs en d).1
def exprP (en d:Nat):Pr:=(prs en d).2
def ruleS (en:Nat) (x:PS):PS:=match x.ts with
  | []=>failS en 2 x
  | t :: _=>if 60≤x.rules.length∧t.kind=1∧kindsL.contains t.text=true then failS en 9 x
    else match takeT kindsL x with
      | none=>failS en 2 x
      | some (kind,y)=>match y.ts with
        | []=>failS en 2 y
        | n :: r=>if n.kind=1∧namedB n.text=true then
            let e:=exprP en 20 (needS en [61] (y.go r))
            let z:=needS en [59] e.1
            { z with rules:=z.rules++[⟨kind,n.text,e.2⟩] }
          else failS en 2 y
def progL (en:Nat):Nat→PS→PS
  | 0,x=>x
  | f+1,x=>if x.ts=[]∨x.err≠0 then x else progL en f (ruleS en x)
structure Prog where
  rules:List Rul
  exprs:List Xpr
  deriving DecidableEq
def ps0 (ts:List Tok):PS:=⟨ts,[],[],0,0⟩
def parseT (en:Nat)(ts:List Tok):Prog × Int × Int :=
  let x:=progL en ts.length (ps0 ts)
  if x.err=0 then (⟨x.rules,x.exprs⟩,0,0) else (⟨[],[]⟩,x.place,x.err)
def parseP (s:List UInt8):Prog × Int × Int:=match lexS s with
  | (ts,none)=>parseT s.length ts
  | (_,some e)=>(⟨[],[]⟩,e,2)
structure Step (x y:PS):Prop where
  ts:y.ts <:+ x.ts
  rules:y.rules=x.rules
  many:y.exprs.length+y.ts.length≤x.exprs.length+x.ts.length
  pre:x.exprs <+: y.exprs
  err:x.err≠0→y.err=x.err∧y.place=x.place
theorem Step.refl (x:PS):Step x x:=⟨List.suffix_refl _,rfl,Nat.le_refl _,List.prefix_refl _,fun _=>⟨rfl,rfl⟩⟩
theorem Step.trans {x y z:PS}(h:Step x y)(g:Step y z):Step x z :=
  ⟨g.ts.trans h.ts,g.rules.trans h.rules,Nat.le_trans g.many h.many,h.pre.trans g.pre,fun hx=>by
    obtain ⟨h1,h2⟩:=h.err hx
    obtain ⟨g1,g2⟩:=g.err (by rw [h1];exact hx)
    exact ⟨g1.trans h1,g2.trans h2⟩⟩
theorem fail_step (en:Nat)(e:Int)(x:PS):Step x (failS en e x):=by
  unfold failS
  split
  · exact ⟨List.suffix_refl _,rfl,Nat.le_refl _,List.prefix_refl _,fun h=>absurd (by assumption) h⟩
  · exact Step.refl x
theorem take_some {l:List (List UInt8)} {x y:PS} {s:List UInt8} (h:takeT l x=some (s,y)) :
    x.err=0∧∃ t r,x.ts=t::r∧signT t=true∧l.contains t.text=true∧s=t.text∧y=(x.go r):=by
  unfold takeT at h
  split at h
  · rename_i h0
    split at h
    · cases h
    · rename_i t r hts
      split at h
      · rename_i hc
        simp only [Option.some.injEq,Prod.mk.injEq] at h
        exact ⟨h0,t,r,hts,hc.1,hc.2,h.1.symm,h.2.symm⟩
      · cases h
  · cases h
structure Step1 (x y:PS):Prop where
  step:Step x y
  many:y.exprs.length+1+y.ts.length≤x.exprs.length+x.ts.length
theorem take_step {l:List (List UInt8)}{x y:PS}{s:List UInt8}(h:takeT l x=some (s,y)):Step1 x y:=by
  obtain ⟨h0,t,r,hts,_,_,_,rfl⟩:=take_some h
  refine ⟨⟨?_,rfl,?_,List.prefix_refl _,fun h=>absurd h0 h⟩,?_⟩
  · rw [hts];exact List.suffix_cons t r
  · rw [hts];simp
  · rw [hts];simp;omega
theorem Step1.trans {x y z:PS}(h:Step1 x y)(g:Step y z):Step1 x z:=⟨h.step.trans g,by have:=h.many;have:=g.many;omega⟩
theorem Step1.put {x y:PS}(h:Step1 x y)(e:Xpr):Step x (putS e y).1 :=
  ⟨h.step.ts,h.step.rules,by have:=h.many;simp [putS];omega,h.step.pre.trans (List.prefix_append _ _),h.step.err⟩
theorem need_step (en:Nat)(s:List UInt8)(x:PS):Step x (needS en s x):=by
  unfold needS
  split
  · rename_i h;exact (take_step h).step
  · exact fail_step en 2 x
def Good1 (f:Pr):Prop:=∀ x,Step x (f x).1
theorem leaf_step (en:Nat):Good1 (leafS en):=by
  intro x
  unfold leafS
  split
  · exact fail_step en 2 x
  · rename_i t r hts
    split
    · refine ⟨?_,rfl,?_,List.prefix_append _ _,fun _=>⟨rfl,rfl⟩⟩
      · rw [hts];exact List.suffix_cons t r
      · rw [hts];simp [putS];omega
    · exact fail_step en 2 x
theorem chainL_step {f:Pr}(hf:Good1 f)(ops:List (List UInt8)):∀ (n:Nat)(x:PS)(a:Nat),Step x (chainL f ops n x a).1
  | 0,x,a=>Step.refl x
  | n + 1,x,a=>by
    unfold chainL
    split
    · exact Step.refl x
    · rename_i op y h
      exact (((take_step h).trans (hf y)).put _).trans (chainL_step hf ops n _ _)
theorem chain_step {f:Pr}(hf:Good1 f)(ops:List (List UInt8)):Good1 (chainS f ops):=fun x=>(hf x).trans (chainL_step hf ops _ _ _)
theorem pair_step (en:Nat){f:Pr}(hf:Good1 f)(op:List UInt8){x y:PS}(h:Step1 x y):Step x (pairS en f op y).1 :=
  Step1.put (((((h.trans (need_step en _ _)).trans (hf _)).trans (need_step en _ _)).trans (hf _)).trans (need_step en _ _)) _
theorem fac_step (en:Nat) {f g:Pr} (hf:Good1 f) (hg:Good1 g):Good1 (facStep en f g):=by
  intro x
  unfold facStep
  split
  · split
    · rename_i h;exact ((take_step h).trans (hf _)).put _
    · split
      · rename_i h;exact pair_step en hg _ (take_step h)
      · split
        · rename_i h;exact (((take_step h).trans (hg _)).trans (need_step en _ _)).step
        · exact leaf_step en x
  · exact Step.refl x
theorem prod_step {f:Pr}(hf:Good1 f):Good1 (prodS f):=chain_step hf _
theorem sum_step {f:Pr}(hf:Good1 f):Good1 (sumS f):=chain_step (prod_step hf) _
theorem ite_step (en:Nat){f:Pr}(hf:Good1 f){x y:PS}(h:Step1 x y):Step x (iteS en f y).1 :=
  Step1.put (((((h.trans (hf _)).trans (need_step en _ _)).trans (hf _)).trans (need_step en _ _)).trans (hf _)) _
theorem cmp_step {f:Pr}(hf:Good1 f):Good1 (cmpS f):=by
  intro x
  unfold cmpS
  split
  · rename_i h;exact (hf x).trans (((take_step h).trans (hf _)).put _)
  · exact hf x
theorem exprStep_step (en:Nat){f g:Pr}(hf:Good1 f)(hg:Good1 g):Good1 (exprStep en f g):=by
  intro x
  unfold exprStep
  split
  · split
    · rename_i h;exact ite_step en hg (take_step h)
    · exact cmp_step (sum_step hf) x
  · exact Step.refl x
theorem long_step (en:Nat):Good1 (longS en):=fun x=>fail_step en 9 x
theorem prs_step (en:Nat):∀ d,Good1 (prs en d).1∧Good1 (prs en d).2
  | 0=>⟨long_step en,long_step en⟩
  | d+1=>by
    have ih:=prs_step en d
    exact ⟨fac_step en ih.1 ih.2,exprStep_step en (fac_step en ih.1 ih.2) ih.2⟩
theorem facP_step (en d:Nat):Good1 (facP en d):=(prs_step en d).1
theorem exprP_step (en d:Nat):Good1 (exprP en d):=(prs_step en d).2
end Pay
end
/- The parser of rule sets by trees: the state's expressions are the trees', one behind the other. -/
section
set_option linter.unusedSimpArgs false
set_option linter.unusedVariables false
namespace Pay
inductive Xt where
  | leaf (op nm:List UInt8) (v:Int)
  | neg (e:Xt)
  | bin (op:List UInt8) (a b:Xt)
  | ite (a b c:Xt)
  deriving DecidableEq
def Xt.size:Xt→Nat
  | .leaf _ _ _=>1
  | .neg e=>e.size+1
  | .bin _ a b=>a.size+b.size+1
  | .ite a b c=>a.size+b.size+c.size+1
theorem Xt.pos (t:Xt):1≤t.size:=by cases t <;> simp [Xt.size]
def flat:Nat→Xt→List Xpr
  | _,.leaf op nm v=>[xLeaf op nm v]
  | n,.neg e=>flat n e++[xNode wNeg (n+e.size-1) 0 0]
  | n,.bin op a b=>flat n a++flat (n+a.size) b++[xNode op (n+a.size-1) (n+a.size+b.size-1) 0]
  | n,.ite a b c=>flat n a++flat (n+a.size) b++flat (n+a.size+b.size) c++[xNode wIf (n+a.size-1) (n+a.size+b.size-1) (n+a.size+b.size+c.size-1)]
theorem flat_len:∀ (t:Xt)(n:Nat),(flat n t).length=t.size
  | .leaf _ _ _,_=>rfl
  | .neg e,n=>by simp [flat,Xt.size,flat_len e]
  | .bin _ a b,n=>by simp [flat,Xt.size,flat_len a,flat_len b];omega
  | .ite a b c,n=>by simp [flat,Xt.size,flat_len a,flat_len b,flat_len c];omega
abbrev Er:=Int × Int
abbrev TR:=Except Er (Xt × List Tok)
def takeK (l:List (List UInt8)):List Tok→Option (List UInt8 × List Tok)
  | []=>none
  | t::r=>if signT t=true∧l.contains t.text=true then some (t.text,r) else none
def needK (en:Nat)(s:List UInt8)(ts:List Tok):Except Er (List Tok):=match takeK [s] ts with
  | some (_,r)=>.ok r
  | none=>.error (2,posT en ts)
def leafE (t:Tok):Option Xt :=
  if t.kind=1 then (if namedB t.text=true then some (.leaf wName t.text 0) else none)
  else if t.kind=2 then some (.leaf wWhole [] (valW t.text))
  else if t.kind=3 then some (.leaf wAmount [] (amtV t.text))
  else if t.kind=4 then some (.leaf wRate [] (rateV t.text))
  else none
def leafK (en:Nat):List Tok→TR
  | []=>.error (2,en)
  | t::r=>(match leafE t with
    | some e=>.ok (e,r)
    | none=>.error (2,t.pos))
def chainK (next:List Tok→TR) (ops:List (List UInt8)):Nat→List Tok→Xt→TR
  | 0,ts,a=>.ok (a,ts)
  | f + 1,ts,a=>match takeK ops ts with
    | none=>.ok (a,ts)
    | some (op,r)=>match next r with
      | .error e=>.error e
      | .ok (b,r')=>chainK next ops f r' (.bin op a b)
def chainT (next:List Tok→TR)(ops:List (List UInt8))(ts:List Tok):TR:=match next ts with
  | .error e=>.error e
  | .ok (a,r)=>chainK next ops r.length r a
def pairK (en:Nat)(expr:List Tok→TR)(op:List UInt8)(ts:List Tok):TR:=do
  let r ← needK en [40] ts
  let (a,r) ← expr r
  let r ← needK en [44] r
  let (b,r) ← expr r
  let r ← needK en [41] r
  .ok (.bin op a b,r)
def iteK (en:Nat)(expr:List Tok→TR)(ts:List Tok):TR:=do
  let (a,r) ← expr ts
  let r ← needK en wThen r
  let (b,r) ← expr r
  let r ← needK en wElse r
  let (c,r) ← expr r
  .ok (.ite a b c,r)
def facK (en:Nat) (fac expr:List Tok→TR) (ts:List Tok):TR:=match takeK [[45]] ts with
  | some (_,r)=>(do let (a,r) ← fac r;.ok (.neg a,r))
  | none=>match takeK [wMin,wMax] ts with
    | some (op,r)=>pairK en expr op r
    | none=>match takeK [[40]] ts with
      | some (_,r)=>(do let (a,r) ← expr r;let r ← needK en [41] r;.ok (a,r))
      | none=>leafK en ts
def prodT (fac:List Tok→TR):List Tok→TR:=chainT fac mulL
def sumT (fac:List Tok→TR):List Tok→TR:=chainT (prodT fac) sumL
def cmpT (sum:List Tok→TR)(ts:List Tok):TR:=do
  let (a,r) ← sum ts
  match takeK cmpL r with
  | some (op,r)=>(do let (b,r) ← sum r;.ok (.bin op a b,r))
  | none=>.ok (a,r)
def exprK (en:Nat)(fac expr:List Tok→TR)(ts:List Tok):TR:=match takeK [wIf] ts with
  | some (_,r)=>iteK en expr r
  | none=>cmpT (sumT fac) ts
def longK (en:Nat)(ts:List Tok):TR:=.error (9,posT en ts)
def prK (en:Nat):Nat→(List Tok→TR) × (List Tok→TR)
  | 0=>(longK en,longK en)
  | d+1=>(facK en (prK en d).1 (prK en d).2,exprK en (facK en (prK en d).1 (prK en d).2) (prK en d).2)
def facT (en d:Nat):List Tok→TR:=(prK en d).1
def exprT (en d:Nat):List Tok→TR:=(prK en d).2
theorem facT_succ (en d:Nat):facT en (d+1)=facK en (facT en d) (exprT en d):=rfl
theorem exprT_succ (en d:Nat):exprT en (d+1)=exprK en (facT en (d+1)) (exprT en d):=rfl
def putT (t:Xt)(r:List Tok)(x:PS):PS × Nat:=({ x with ts:=r,exprs:=x.exprs++flat x.exprs.length t },x.exprs.length+t.size-1)
def Corr1 (x:PS)(y:PS × Nat):TR→Prop
  | .ok (t,r)=>y=putT t r x
  | .error (e,p)=>e≠0∧y.1.err=e∧y.1.place=p
def Corr (f:Pr)(g:List Tok→TR):Prop:=∀ x,x.err=0→Corr1 x (f x) (g x.ts)
theorem Corr1.ok {x:PS}{y:PS × Nat}{t:Xt}{r:List Tok}(h:y=putT t r x):Corr1 x y (.ok (t,r)):=h
theorem Corr1.no {x z:PS}{y:PS × Nat}{e p:Int}(hs:Step z y.1)(h:e≠0∧z.err=e∧z.place=p):Corr1 x y (.error (e,p)):=by
  obtain ⟨h0,h1,h2⟩:=h
  have:=hs.err (by rw [h1];exact h0)
  exact ⟨h0,this.1.trans h1,this.2.trans h2⟩
theorem Step.put (x:PS)(e:Xpr):x.err≠0→(putS e x).1.err=x.err∧(putS e x).1.place=x.place:=fun _=>⟨rfl,rfl⟩
structure Stays (x y:PS):Prop where
  err:x.err≠0→y.err=x.err∧y.place=x.place
theorem Stays.trans {x y z:PS}(h:Stays x y)(g:Stays y z):Stays x z:=⟨fun hx=>by
    obtain ⟨h1,h2⟩:=h.err hx
    obtain ⟨g1,g2⟩:=g.err (by rw [h1];exact hx)
    exact ⟨g1.trans h1,g2.trans h2⟩⟩
theorem Step.stays {x y:PS}(h:Step x y):Stays x y:=⟨h.err⟩
theorem put_stays (x:PS)(e:Xpr):Stays x (putS e x).1:=⟨fun _=>⟨rfl,rfl⟩⟩
theorem Corr1.stop {x z:PS}{y:PS × Nat}{e:Er}(hs:Stays z y.1)(h:e.1≠0∧z.err=e.1∧z.place=e.2):Corr1 x y (.error e):=by
  obtain ⟨h0,h1,h2⟩:=h
  have:=hs.err (by rw [h1];exact h0)
  exact ⟨h0,this.1.trans h1,this.2.trans h2⟩
theorem take_K {l:List (List UInt8)}{x:PS}(h:x.err=0):takeT l x=(takeK l x.ts).map (fun p=>(p.1,x.go p.2)):=by
  unfold takeT takeK
  rw [if_pos h]
  cases x.ts with
  | nil=>rfl
  | cons t r =>
    simp only
    split <;> rfl
theorem need_K (en:Nat)(s:List UInt8){x:PS}(h:x.err=0):match needK en s x.ts with
    | .ok r=>needS en s x=x.go r
    | .error e=>e.1≠0∧(needS en s x).err=e.1∧(needS en s x).place=e.2:=by
  unfold needK needS
  rw [take_K h]
  cases takeK [s] x.ts with
  | none=>simp [failS,h]
  | some p=>rfl
theorem leaf_X (t:Tok):leafX t=(leafE t).map (fun e=>match e with | .leaf op nm v=>xLeaf op nm v|_=>xLeaf [] [] 0):=by
  unfold leafX leafE
  repeat' split
  all_goals rfl
theorem leafE_leaf {t:Tok}{e:Xt}(h:leafE t=some e):∃ op nm v,e = .leaf op nm v:=by
  unfold leafE at h
  repeat' split at h
  all_goals first|(injection h with h;exact ⟨_,_,_,h.symm⟩)|cases h
theorem leaf_corr (en:Nat):Corr (leafS en) (leafK en):=by
  intro x hx
  unfold leafS leafK
  cases hts:x.ts with
  | nil=>simp [Corr1,failS,hx,hts,posT]
  | cons t r =>
    simp only
    rw [leaf_X]
    cases he:leafE t with
    | none=>simp [Corr1,failS,hx,hts,posT]
    | some e =>
      obtain ⟨op,nm,v,rfl⟩:=leafE_leaf he
      rfl
theorem Corr.ok {f:Pr}{g:List Tok→TR}(hc:Corr f g){x:PS}(hx:x.err=0){t:Xt}{r:List Tok}(h:g x.ts = .ok (t,r)):f x=putT t r x:=by
  have:=hc x hx
  rw [h] at this
  exact this
theorem Corr.no {f:Pr}{g:List Tok→TR}(hc:Corr f g){x:PS}(hx:x.err=0){e:Er}(h:g x.ts = .error e):e.1≠0∧(f x).1.err=e.1∧(f x).1.place=e.2:=by
  have:=hc x hx
  rw [h] at this
  exact this
theorem putT_bin (op:List UInt8)(t b:Xt)(r r1 r2:List Tok)(x:PS):putS (xNode op (putT t r x).2 (putT b r2 ((putT t r x).1.go r1)).2 0) (putT b r2 ((putT t r x).1.go r1)).1=putT (.bin op t b) r2 x:=by
  have:=t.pos
  have:=b.pos
  simp only [putS,putT,flat,Xt.size,List.length_append,flat_len]
  refine Prod.ext ?_ ?_
  · simp only [PS.mk.injEq,true_and,and_true]
    rw [List.append_assoc,List.append_assoc,List.append_assoc]
  · simp only;omega
theorem chainL_corr {f:Pr} {g:List Tok→TR} (hc:Corr f g) (hf:Good1 f) (ops:List (List UInt8)):∀ (n:Nat) (x:PS) (t:Xt) (r:List Tok),x.err=0 →
    Corr1 x (chainL f ops n (putT t r x).1 (putT t r x).2) (chainK g ops n r t)
  | 0,x,t,r,hx=>rfl
  | n + 1,x,t,r,hx=>by
    unfold chainL chainK
    rw [take_K (x:=(putT t r x).1) hx]
    cases hk:takeK ops r with
    | none =>
      rw [show (takeK ops (putT t r x).1.ts)=none from hk]
      rfl
    | some p =>
      obtain ⟨op,r1⟩:=p
      rw [show (takeK ops (putT t r x).1.ts)=some (op,r1) from hk]
      simp only [Option.map_some]
      cases hg:g r1 with
      | error e =>
        exact Corr1.stop ((put_stays _ _).trans (chainL_step hf ops n _ _).stays) (hc.no (x:=(putT t r x).1.go r1) hx hg)
      | ok q =>
        obtain ⟨b,r2⟩:=q
        rw [hc.ok (x:=(putT t r x).1.go r1) hx hg,putT_bin]
        exact chainL_corr hc hf ops n x (.bin op t b) r2 hx
theorem chain_corr {f:Pr}{g:List Tok→TR}(hc:Corr f g)(hf:Good1 f)(ops:List (List UInt8)):Corr (chainS f ops) (chainT g ops):=by
  intro x hx
  have h:=hc x hx
  unfold chainS chainT
  cases hg:g x.ts with
  | error e =>
    rw [hg] at h
    exact Corr1.stop (chainL_step hf ops _ _ _).stays h
  | ok q =>
    obtain ⟨t,r⟩:=q
    rw [hg] at h
    have h:f x=putT t r x:=h
    rw [h]
    exact chainL_corr hc hf ops _ x t r hx
theorem putT_go (t:Xt)(r r':List Tok)(x:PS):(putT t r x).1.go r'=(putT t r' x).1:=rfl
theorem need_ok {en:Nat}{s:List UInt8}{x:PS}(h:x.err=0){r:List Tok}(hk:needK en s x.ts = .ok r):needS en s x=x.go r:=by
  have:=need_K en s h
  rw [hk] at this
  exact this
theorem need_no {en:Nat}{s:List UInt8}{x:PS}(h:x.err=0){e:Er}(hk:needK en s x.ts = .error e):e.1≠0∧(needS en s x).err=e.1∧(needS en s x).place=e.2:=by
  have:=need_K en s h
  rw [hk] at this
  exact this
theorem putT_pair (op:List UInt8)(t b:Xt)(r r2 r3:List Tok)(x:PS):putS (xNode op (putT t r x).2 (putT b r2 (putT t r x).1).2 0) ((putT b r2 (putT t r x).1).1.go r3)=putT (.bin op t b) r3 x:=by
  have:=t.pos
  have:=b.pos
  simp only [putS,putT,flat,Xt.size,List.length_append,flat_len]
  refine Prod.ext ?_ ?_
  · simp only [PS.mk.injEq,true_and,and_true]
    rw [List.append_assoc,List.append_assoc,List.append_assoc]
  · simp only;omega
theorem putT_ite (a b c:Xt)(r r2 r3:List Tok)(x:PS):putS (xNode wIf (putT a r x).2 (putT b r2 (putT a r x).1).2 (putT c r3 (putT b r2 (putT a r x).1).1).2) (putT c r3 (putT b r2 (putT a r x).1).1).1=putT (.ite a b c) r3 x:=by
  have:=a.pos
  have:=b.pos
  have:=c.pos
  simp only [putS,putT,flat,Xt.size,List.length_append,flat_len]
  refine Prod.ext ?_ ?_
  · simp only [PS.mk.injEq,true_and,and_true,List.append_assoc]
  · simp only;omega
theorem putT_neg (a:Xt)(r:List Tok)(x:PS):putS (xNode wNeg (putT a r x).2 0 0) (putT a r x).1=putT (.neg a) r x:=by
  have:=a.pos
  simp only [putS,putT,flat,Xt.size,List.length_append,flat_len]
  refine Prod.ext ?_ ?_
  · simp only [PS.mk.injEq,true_and,and_true,List.append_assoc]
  · simp only;omega
theorem bind_err {α β:Type}(e:Er)(f:α→Except Er β):(Except.error e >>= f) = .error e:=rfl
theorem bind_ok {α β:Type}(a:α)(f:α→Except Er β):(Except.ok a >>= f)=f a:=rfl
theorem pair_corr (en:Nat) {f:Pr} {g:List Tok→TR} (hc:Corr f g) (hf:Good1 f) (op:List UInt8):Corr (pairS en f op) (pairK en g op):=by
  intro x hx
  unfold pairS pairK
  simp only
  cases h1:needK en [40] x.ts with
  | error e =>
    rw [bind_err]
    exact Corr1.stop ((((hf _).stays.trans (need_step en _ _).stays).trans (hf _).stays).trans ((need_step en _ _).stays.trans (put_stays _ _))) (need_no hx h1)
  | ok r1 =>
    rw [bind_ok,need_ok hx h1]
    cases h2:g r1 with
    | error e =>
      rw [bind_err]
      exact Corr1.stop (((need_step en _ _).stays.trans (hf _).stays).trans ((need_step en _ _).stays.trans (put_stays _ _))) (hc.no (x:=x.go r1) hx h2)
    | ok q =>
      obtain ⟨a,r2⟩:=q
      rw [bind_ok,hc.ok (x:=x.go r1) hx h2]
      simp only
      cases h3:needK en [44] r2 with
      | error e =>
        rw [bind_err]
        exact Corr1.stop ((hf _).stays.trans ((need_step en _ _).stays.trans (put_stays _ _))) (need_no (x:=(putT a r2 (x.go r1)).1) hx h3)
      | ok r3 =>
        rw [bind_ok,need_ok (x:=(putT a r2 (x.go r1)).1) hx h3,putT_go]
        cases h4:g r3 with
        | error e =>
          rw [bind_err]
          exact Corr1.stop ((need_step en _ _).stays.trans (put_stays _ _)) (hc.no (x:=(putT a r3 (x.go r1)).1) hx h4)
        | ok q =>
          obtain ⟨b,r4⟩:=q
          rw [bind_ok,hc.ok (x:=(putT a r3 (x.go r1)).1) hx h4]
          simp only
          cases h5:needK en [41] r4 with
          | error e =>
            rw [bind_err]
            exact Corr1.stop (put_stays _ _) (need_no (x:=(putT b r4 (putT a r3 (x.go r1)).1).1) hx h5)
          | ok r5 =>
            rw [bind_ok,need_ok (x:=(putT b r4 (putT a r3 (x.go r1)).1).1) hx h5]
            exact putT_pair op a b r3 r4 r5 (x.go r1)
theorem ite_corr (en:Nat) {f:Pr} {g:List Tok→TR} (hc:Corr f g) (hf:Good1 f):Corr (iteS en f) (iteK en g):=by
  intro x hx
  unfold iteS iteK
  simp only
  cases h1:g x.ts with
  | error e =>
    rw [bind_err]
    exact Corr1.stop ((((need_step en _ _).stays.trans (hf _).stays).trans ((need_step en _ _).stays.trans (hf _).stays)).trans (put_stays _ _)) (hc.no hx h1)
  | ok q =>
    obtain ⟨a,r1⟩:=q
    rw [bind_ok,hc.ok hx h1]
    simp only
    cases h2:needK en wThen r1 with
    | error e =>
      rw [bind_err]
      exact Corr1.stop (((hf _).stays.trans ((need_step en _ _).stays.trans (hf _).stays)).trans (put_stays _ _)) (need_no (x:=(putT a r1 x).1) hx h2)
    | ok r2 =>
      rw [bind_ok,need_ok (x:=(putT a r1 x).1) hx h2,putT_go]
      cases h3:g r2 with
      | error e =>
        rw [bind_err]
        exact Corr1.stop (((need_step en _ _).stays.trans (hf _).stays).trans (put_stays _ _)) (hc.no (x:=(putT a r2 x).1) hx h3)
      | ok q =>
        obtain ⟨b,r3⟩:=q
        rw [bind_ok,hc.ok (x:=(putT a r2 x).1) hx h3]
        simp only
        cases h4:needK en wElse r3 with
        | error e =>
          rw [bind_err]
          exact Corr1.stop ((hf _).stays.trans (put_stays _ _)) (need_no (x:=(putT b r3 (putT a r2 x).1).1) hx h4)
        | ok r4 =>
          rw [bind_ok,need_ok (x:=(putT b r3 (putT a r2 x).1).1) hx h4,putT_go]
          cases h5:g r4 with
          | error e =>
            rw [bind_err]
            exact Corr1.stop (put_stays _ _) (hc.no (x:=(putT b r4 (putT a r2 x).1).1) hx h5)
          | ok q =>
            obtain ⟨c,r5⟩:=q
            rw [bind_ok,hc.ok (x:=(putT b r4 (putT a r2 x).1).1) hx h5]
            exact putT_ite a b c r2 r4 r5 x
theorem fac_corr (en:Nat) {f f':Pr} {g g':List Tok→TR} (hc:Corr f g) (hf:Good1 f) (hc':Corr f' g') (hf':Good1 f'):Corr (facStep en f f') (facK en g g'):=by
  intro x hx
  unfold facStep facK
  rw [if_pos hx,take_K hx,take_K hx,take_K hx]
  cases h1:takeK [[45]] x.ts with
  | some p =>
    obtain ⟨s,r⟩:=p
    simp only [Option.map_some]
    cases h2:g r with
    | error e =>
      rw [bind_err]
      exact Corr1.stop (put_stays _ _) (hc.no (x:=x.go r) hx h2)
    | ok q =>
      obtain ⟨a,r1⟩:=q
      rw [bind_ok,hc.ok (x:=x.go r) hx h2]
      exact putT_neg a r1 (x.go r)
  | none =>
    simp only [Option.map_none]
    cases h2:takeK [wMin,wMax] x.ts with
    | some p => 
      obtain ⟨s,r⟩:=p
      exact pair_corr en hc' hf' s (x.go r) hx
    | none =>
      simp only [Option.map_none]
      cases h3:takeK [[40]] x.ts with
      | some p =>
        obtain ⟨s,r⟩:=p
        simp only [Option.map_some]
        cases h4:g' r with
        | error e =>
          rw [bind_err]
          exact Corr1.stop (need_step en _ _).stays (hc'.no (x:=x.go r) hx h4)
        | ok q =>
          obtain ⟨a,r1⟩:=q
          rw [bind_ok,hc'.ok (x:=x.go r) hx h4]
          simp only
          cases h5:needK en [41] r1 with
          | error e =>
            rw [bind_err]
            exact Corr1.stop ⟨fun _=>⟨rfl,rfl⟩⟩ (need_no (x:=(putT a r1 (x.go r)).1) hx h5)
          | ok r2 =>
            rw [bind_ok,need_ok (x:=(putT a r1 (x.go r)).1) hx h5]
            rfl
      | none=>exact leaf_corr en x hx
theorem cmp_corr {f:Pr} {g:List Tok→TR} (hc:Corr f g) (hf:Good1 f):Corr (cmpS f) (cmpT g):=by
  intro x hx
  unfold cmpS cmpT
  cases h1:g x.ts with
  | error e =>
    rw [bind_err]
    have h:=hc.no hx h1
    have:takeT cmpL (f x).1=none:=by unfold takeT;rw [if_neg (by rw [h.2.1];exact h.1)]
    rw [this]
    exact h
  | ok q =>
    obtain ⟨a,r⟩:=q
    rw [bind_ok,hc.ok hx h1,take_K (x:=(putT a r x).1) hx]
    simp only
    cases h2:takeK cmpL r with
    | none =>
      rw [show takeK cmpL (putT a r x).1.ts=none from h2]
      rfl
    | some p =>
      obtain ⟨op,r1⟩:=p
      rw [show takeK cmpL (putT a r x).1.ts=some (op,r1) from h2]
      simp only [Option.map_some]
      cases h3:g r1 with
      | error e =>
        rw [bind_err]
        exact Corr1.stop (put_stays _ _) (hc.no (x:=(putT a r x).1.go r1) hx h3)
      | ok q =>
        obtain ⟨b,r2⟩:=q
        rw [bind_ok,hc.ok (x:=(putT a r x).1.go r1) hx h3]
        exact putT_bin op a b r r1 r2 x
theorem expr_corr (en:Nat){f f':Pr}{g g':List Tok→TR}(hc:Corr f g)(hf:Good1 f)(hc':Corr f' g')(hf':Good1 f'):Corr (exprStep en f f') (exprK en g g'):=by
  intro x hx
  unfold exprStep exprK
  rw [if_pos hx,take_K hx]
  cases h1:takeK [wIf] x.ts with
  | some p =>
    obtain ⟨s,r⟩:=p
    exact ite_corr en hc' hf' (x.go r) hx
  | none=>exact cmp_corr (chain_corr (chain_corr hc hf _) (prod_step hf) _) (sum_step hf) x hx
theorem long_corr (en:Nat):Corr (longS en) (longK en):=by
  intro x hx
  show (9:Int)≠0∧(failS en 9 x).err=9∧(failS en 9 x).place=posT en x.ts
  unfold failS
  rw [if_pos hx]
  exact ⟨by decide,rfl,rfl⟩
theorem prs_corr (en:Nat):∀ d,Corr (prs en d).1 (prK en d).1∧Corr (prs en d).2 (prK en d).2
  | 0=>⟨long_corr en,long_corr en⟩
  | d+1=>by
    have ih:=prs_corr en d
    have hs:=prs_step en d
    have h1:=fac_corr en ih.1 hs.1 ih.2 hs.2
    exact ⟨h1,expr_corr en h1 (fac_step en hs.1 hs.2) ih.2 hs.2⟩
theorem exprP_corr (en d:Nat):Corr (exprP en d) (exprT en d):=(prs_corr en d).2
structure RT where
  kind:List UInt8
  name:List UInt8
  tree:Xt
  deriving DecidableEq
def ruleK (en n:Nat) (ts:List Tok):Except Er (RT × List Tok):=match ts with
  | []=>.error (2,en)
  | t :: r=>if 60≤n∧t.kind=1∧kindsL.contains t.text=true then .error (9,t.pos)
    else if signT t=true∧kindsL.contains t.text=true then match r with
      | []=>.error (2,en)
      | m :: r=>if m.kind=1∧namedB m.text=true then (do
          let r ← needK en [61] r
          let (e,r) ← exprT en 20 r
          let r ← needK en [59] r
          .ok (⟨t.text,m.text,e⟩,r))
        else .error (2,m.pos)
    else .error (2,t.pos)
def progK (en:Nat):Nat→Nat→List Tok→Except Er (List RT)
  | 0,_,_=>.ok []
  | f + 1,n,ts=>if ts=[] then .ok [] else match ruleK en n ts with
    | .error e=>.error e
    | .ok (q,r)=>match progK en f (n+1) r with
      | .error e=>.error e
      | .ok l=>.ok (q::l)
def rulesOf:Nat→List RT→List Rul
  | _,[]=>[]
  | n,q::l=>⟨q.kind,q.name,(n+q.tree.size-1:Nat)⟩::rulesOf (n+q.tree.size) l
def exprsOf:Nat→List RT→List Xpr
  | _,[]=>[]
  | n,q::l=>flat n q.tree++exprsOf (n+q.tree.size) l
def progOf (l:List RT):Prog:=⟨rulesOf 0 l,exprsOf 0 l⟩
def putR (q:RT)(r:List Tok)(x:PS):PS:=⟨r,x.rules++[⟨q.kind,q.name,(x.exprs.length+q.tree.size-1:Nat)⟩],x.exprs++flat x.exprs.length q.tree,x.err,x.place⟩
theorem rule_corr (en:Nat) {x:PS} (hx:x.err=0):match ruleK en x.rules.length x.ts with
    | .ok (q,r)=>ruleS en x=putR q r x
    | .error e=>e.1≠0∧(ruleS en x).err=e.1∧(ruleS en x).place=e.2:=by
  unfold ruleK ruleS
  cases hts:x.ts with
  | nil=>simp [failS,hx,hts,posT]
  | cons t r =>
    simp only
    by_cases h1:60≤x.rules.length∧t.kind=1∧kindsL.contains t.text=true
    · rw [if_pos h1,if_pos h1]
      simp [failS,hx,hts,posT]
    · rw [if_neg h1,if_neg h1,take_K hx,hts]
      unfold takeK
      simp only
      by_cases h2:signT t=true∧kindsL.contains t.text=true
      · rw [if_pos h2,if_pos h2]
        simp only [Option.map_some]
        cases r with
        | nil=>simp [failS,hx,posT]
        | cons m r =>
          simp only
          by_cases h3:m.kind=1∧namedB m.text=true
          · rw [if_pos h3,if_pos h3]
            cases h4:needK en [61] r with
            | error e =>
              rw [bind_err]
              have h:=need_no (x:=x.go r) hx h4
              have s:=((exprP_step en 20 (needS en [61] (x.go r))).trans (need_step en [59] _)).err (by rw [h.2.1];exact h.1)
              exact ⟨h.1,s.1.trans h.2.1,s.2.trans h.2.2⟩
            | ok r1 =>
              rw [bind_ok,need_ok (x:=x.go r) hx h4]
              cases h5:exprT en 20 r1 with
              | error e =>
                rw [bind_err]
                have h:=(exprP_corr en 20).no (x:=x.go r1) hx h5
                have s:=(need_step en [59] (exprP en 20 (x.go r1)).1).err (by rw [h.2.1];exact h.1)
                exact ⟨h.1,s.1.trans h.2.1,s.2.trans h.2.2⟩
              | ok q =>
                obtain ⟨e,r2⟩:=q
                rw [bind_ok,show exprP en 20 ((x.go r).go r1)=_ from (exprP_corr en 20).ok (x:=x.go r1) hx h5]
                simp only
                cases h6:needK en [59] r2 with
                | error e2 =>
                  rw [bind_err]
                  exact need_no (x:=(putT e r2 (x.go r1)).1) hx h6
                | ok r3 =>
                  rw [bind_ok,need_ok (x:=(putT e r2 (x.go r1)).1) hx h6]
                  rfl
          · rw [if_neg h3,if_neg h3]
            simp [failS,hx,posT]
      · rw [if_neg h2,if_neg h2]
        simp [failS,hx,hts,posT]
theorem rule_stop (en:Nat):∀ (f:Nat){x:PS},x.err≠0→progL en f x=x
  | 0,_,_=>rfl
  | f+1,x,h=>by unfold progL;rw [if_pos (.inr h)]
theorem prog_corr (en:Nat):∀ (f:Nat) {x:PS},x.err=0→match progK en f x.rules.length x.ts with
    | .ok l=>(progL en f x).err=0∧(progL en f x).rules=x.rules++rulesOf x.exprs.length l∧(progL en f x).exprs=x.exprs++exprsOf x.exprs.length l
    | .error e=>e.1≠0∧(progL en f x).err=e.1∧(progL en f x).place=e.2
  | 0,x,hx=>by simp [progK,progL,hx,rulesOf,exprsOf]
  | f + 1,x,hx=>by
    unfold progK progL
    by_cases h0:x.ts=[]
    · rw [if_pos h0,if_pos (.inl h0)]
      simp [hx,rulesOf,exprsOf]
    · rw [if_neg h0,if_neg (by simp [h0,hx])]
      have h:=rule_corr en hx
      cases hk:ruleK en x.rules.length x.ts with
      | error e =>
        rw [hk] at h
        simp only at h ⊢
        rw [rule_stop en f (by rw [h.2.1];exact h.1)]
        exact h
      | ok p =>
        obtain ⟨q,r⟩:=p
        rw [hk] at h
        simp only at h ⊢
        rw [h]
        have ih:=prog_corr en f (x:=putR q r x) hx
        rw [show (putR q r x).rules.length=x.rules.length+1 by simp [putR],show (putR q r x).ts=r from rfl] at ih
        cases hp:progK en f (x.rules.length+1) r with
        | error e=>rw [hp] at ih;exact ih
        | ok l =>
          rw [hp] at ih
          simp only at ih ⊢
          refine ⟨ih.1,?_,?_⟩
          · rw [ih.2.1];simp [putR,rulesOf,flat_len]
          · rw [ih.2.2];simp [putR,exprsOf,flat_len]
def readT (en:Nat)(ts:List Tok):Except Er (List RT):=progK en ts.length 0 ts
theorem parseT_eq (en:Nat)(ts:List Tok):parseT en ts=match readT en ts with
    | .ok l=>(progOf l,0,0)
    | .error e=>(⟨[],[]⟩,e.2,e.1):=by
  have h:=prog_corr en ts.length (x:=ps0 ts) rfl
  unfold parseT readT
  rw [show (ps0 ts).rules.length=0 from rfl,show (ps0 ts).ts=ts from rfl] at h
  cases hk:progK en ts.length 0 ts with
  | error e =>
    rw [hk] at h
    simp only at h ⊢
    rw [if_neg (by rw [h.2.1];exact h.1),h.2.1,h.2.2]
  | ok l =>
    rw [hk] at h
    simp only at h ⊢
    rw [if_pos h.1,h.2.1,h.2.2]
    rfl
end Pay
end
/- The parser, plainly: what it makes of tokens that are alike but for their places; of tokens behind tokens. -/
section
set_option linter.unusedSimpArgs false
set_option linter.unusedVariables false
namespace Pay
def TokR (P:Int→Int→Prop):List Tok→List Tok→Prop
  | [],[]=>True
  | t::ts,u::us=>t.kind=u.kind∧t.text=u.text∧P t.pos u.pos∧TokR P ts us
  | _,_=>False
theorem TokR.length {P:Int→Int→Prop}:∀ {ts us:List Tok},TokR P ts us→ts.length=us.length
  | [],[],_=>rfl
  | _::ts,_::us,h=>by simp [TokR.length h.2.2.2]
  | [],_::_,h=>h.elim
  | _::_,[],h=>h.elim
def ResR {α:Type}(P:Int→Int→Prop)(A:α→α→Prop):Except Er α→Except Er α→Prop
  | .ok a,.ok b=>A a b
  | .error e,.error f=>e.1=f.1∧P e.2 f.2
  | _,_=>False
def TreeR (P:Int→Int→Prop)(x y:Xt × List Tok):Prop:=x.1=y.1∧TokR P x.2 y.2
def FunR (P:Int→Int→Prop)(f g:List Tok→TR):Prop:=∀ ts us,TokR P ts us→ResR P (TreeR P) (f ts) (g us)
theorem ResR.bind {α β:Type}{P:Int→Int→Prop}{A:α→α→Prop}{B:β→β→Prop}{x y:Except Er α}{f g:α→Except Er β}(h:ResR P A x y)(hf:∀ a b,A a b→ResR P B (f a) (g b)):ResR P B (x >>= f) (y >>= g):=by
  match x,y,h with
  | .ok a,.ok b,h=>exact hf a b h
  | .error e,.error e',h=>exact h
section
variable {P:Int→Int→Prop}{en en':Nat}
theorem pos_R (hen:P en en'):∀ {ts us:List Tok},TokR P ts us→P (posT en ts) (posT en' us)
  | [],[],_=>hen
  | _::_,_::_,h=>h.2.2.1
  | [],_::_,h=>h.elim
  | _::_,[],h=>h.elim
theorem take_R {l:List (List UInt8)}:∀ {ts us:List Tok},TokR P ts us→(takeK l ts=none∧takeK l us=none)∨∃ s r r',takeK l ts=some (s,r)∧takeK l us=some (s,r')∧TokR P r r'
  | [],[],_=>.inl ⟨rfl,rfl⟩
  | t::ts,u::us,h=>by
    obtain ⟨h1,h2,_,h4⟩:=h
    unfold takeK
    simp only
    have e:signT t=signT u:=by unfold signT;rw [h1]
    rw [e,h2]
    split
    · exact .inr ⟨_,_,_,rfl,rfl,h4⟩
    · exact .inl ⟨rfl,rfl⟩
  | [],_::_,h=>h.elim
  | _::_,[],h=>h.elim
theorem need_R (hen:P en en'){s:List UInt8}{ts us:List Tok}(h:TokR P ts us):ResR P (TokR P) (needK en s ts) (needK en' s us):=by
  unfold needK
  rcases take_R (l:=[s]) h with ⟨h1,h2⟩|⟨s',r,r',h1,h2,h3⟩
  · rw [h1,h2];exact ⟨rfl,pos_R hen h⟩
  · rw [h1,h2];exact h3
theorem leafE_R {t u:Tok}(h1:t.kind=u.kind)(h2:t.text=u.text):leafE t=leafE u:=by unfold leafE;rw [h1,h2]
theorem leaf_R (hen:P en en'):FunR P (leafK en) (leafK en')
  | [],[],_=>⟨rfl,hen⟩
  | t::ts,u::us,h=>by
    unfold leafK
    simp only
    rw [leafE_R h.1 h.2.1]
    cases leafE u with
    | none=>exact ⟨rfl,h.2.2.1⟩
    | some e=>exact ⟨rfl,h.2.2.2⟩
  | [],_::_,h=>h.elim
  | _::_,[],h=>h.elim
theorem chainK_R {f g:List Tok→TR} (hf:FunR P f g) {ops:List (List UInt8)}:∀ (n:Nat) {ts us:List Tok} (a:Xt),TokR P ts us→ResR P (TreeR P) (chainK f ops n ts a) (chainK g ops n us a)
  | 0,ts,us,a,h=>⟨rfl,h⟩
  | n + 1,ts,us,a,h=>by
    unfold chainK
    rcases take_R (l:=ops) h with ⟨h1,h2⟩|⟨s,r,r',h1,h2,h3⟩
    · rw [h1,h2];exact ⟨rfl,h⟩
    · rw [h1,h2]
      simp only
      have:=hf _ _ h3
      match f r,g r',this with
      | .ok (b,q),.ok (b',q'),h => 
        obtain ⟨rfl,h⟩:=h
        exact chainK_R hf n _ h
      | .error _,.error _,h=>exact h
theorem chain_R {f g:List Tok→TR}(hf:FunR P f g){ops:List (List UInt8)}:FunR P (chainT f ops) (chainT g ops):=by
  intro ts us h
  unfold chainT
  have:=hf _ _ h
  match f ts,g us,this with
  | .ok (b,q),.ok (b',q'),h =>
    obtain ⟨rfl,h⟩:=h
    have h:TokR P q q':=h
    simp only
    rw [h.length]
    exact chainK_R hf _ _ h
  | .error _,.error _,h=>exact h
theorem pair_R (hen:P en en'){f g:List Tok→TR}(hf:FunR P f g)(op:List UInt8):FunR P (pairK en f op) (pairK en' g op):=by
  intro ts us h
  unfold pairK
  refine (need_R hen h).bind (fun r r' h=>(hf _ _ h).bind ?_)
  rintro ⟨a,r⟩ ⟨a',r'⟩ ⟨rfl,h⟩
  refine (need_R hen h).bind (fun r r' h=>(hf _ _ h).bind ?_)
  rintro ⟨b,r⟩ ⟨b',r'⟩ ⟨rfl,h⟩
  exact (need_R hen h).bind (fun r r' h=>⟨rfl,h⟩)
theorem ite_R (hen:P en en'){f g:List Tok→TR}(hf:FunR P f g):FunR P (iteK en f) (iteK en' g):=by
  intro ts us h
  unfold iteK
  refine (hf _ _ h).bind ?_
  rintro ⟨a,r⟩ ⟨a',r'⟩ ⟨rfl,h⟩
  refine (need_R hen h).bind (fun r r' h=>(hf _ _ h).bind ?_)
  rintro ⟨b,r⟩ ⟨b',r'⟩ ⟨rfl,h⟩
  refine (need_R hen h).bind (fun r r' h=>(hf _ _ h).bind ?_)
  rintro ⟨c,r⟩ ⟨c',r'⟩ ⟨rfl,h⟩
  exact ⟨rfl,h⟩
theorem fac_R (hen:P en en') {f g f' g':List Tok→TR} (hf:FunR P f g) (hf':FunR P f' g'):FunR P (facK en f f') (facK en' g g'):=by
  intro ts us h
  unfold facK
  rcases take_R (l:=[[45]]) h with ⟨h1,h2⟩|⟨s,r,r',h1,h2,h3⟩
  · rw [h1,h2]
    simp only
    rcases take_R (l:=[wMin,wMax]) h with ⟨h1,h2⟩|⟨s,r,r',h1,h2,h3⟩
    · rw [h1,h2]
      simp only
      rcases take_R (l:=[[40]]) h with ⟨h1,h2⟩|⟨s,r,r',h1,h2,h3⟩
      · rw [h1,h2];exact leaf_R hen _ _ h
      · rw [h1,h2]
        refine (hf' _ _ h3).bind ?_
        rintro ⟨a,r⟩ ⟨a',r'⟩ ⟨rfl,h⟩
        exact (need_R hen h).bind (fun r r' h=>⟨rfl,h⟩)
    · rw [h1,h2];exact pair_R hen hf' s _ _ h3
  · rw [h1,h2]
    refine (hf _ _ h3).bind ?_
    rintro ⟨a,r⟩ ⟨a',r'⟩ ⟨rfl,h⟩
    exact ⟨rfl,h⟩
theorem cmp_R {f g:List Tok→TR}(hf:FunR P f g):FunR P (cmpT f) (cmpT g):=by
  intro ts us h
  unfold cmpT
  refine (hf _ _ h).bind ?_
  rintro ⟨a,r⟩ ⟨a',r'⟩ ⟨rfl,h⟩
  simp only at h ⊢
  rcases take_R (l:=cmpL) h with ⟨h1,h2⟩|⟨s,q,q',h1,h2,h3⟩
  · rw [h1,h2];exact ⟨rfl,h⟩
  · rw [h1,h2]
    refine (hf _ _ h3).bind ?_
    rintro ⟨b,r⟩ ⟨b',r'⟩ ⟨rfl,h⟩
    exact ⟨rfl,h⟩
theorem exprK_R (hen:P en en'){f g f' g':List Tok→TR}(hf:FunR P f g)(hf':FunR P f' g'):FunR P (exprK en f f') (exprK en' g g'):=by
  intro ts us h
  unfold exprK
  rcases take_R (l:=[wIf]) h with ⟨h1,h2⟩|⟨s,r,r',h1,h2,h3⟩
  · rw [h1,h2];exact cmp_R (chain_R (chain_R hf)) _ _ h
  · rw [h1,h2];exact ite_R hen hf' _ _ h3
theorem long_R (hen:P en en'):FunR P (longK en) (longK en'):=fun ts us h=>⟨rfl,pos_R hen h⟩
theorem prK_R (hen:P en en'):∀ d,FunR P (prK en d).1 (prK en' d).1∧FunR P (prK en d).2 (prK en' d).2
  | 0=>⟨long_R hen,long_R hen⟩
  | d+1=>by
    obtain ⟨h1,h2⟩:=prK_R hen d
    exact ⟨fac_R hen h1 h2,exprK_R hen (fac_R hen h1 h2) h2⟩
theorem expr_R (hen:P en en')(d:Nat):FunR P (exprT en d) (exprT en' d):=(prK_R hen d).2
theorem rule_R (hen:P en en') (n:Nat):∀ {ts us:List Tok},TokR P ts us→ResR P (fun x y=>x.1=y.1∧TokR P x.2 y.2) (ruleK en n ts) (ruleK en' n us)
  | [],[],_=>⟨rfl,hen⟩
  | [],_::_,h=>h.elim
  | _::_,[],h=>h.elim
  | t :: ts,u::us,h=>by
    obtain ⟨h1,h2,h3,h4⟩:=h
    unfold ruleK
    simp only
    have e:signT t=signT u:=by unfold signT;rw [h1]
    rw [h1,h2,e]
    split
    · exact ⟨rfl,h3⟩
    · split
      · match ts,us,h4 with
        | [],[],_=>exact ⟨rfl,hen⟩
        | m :: ts,k::us,h =>
          obtain ⟨k1,k2,k3,k4⟩:=h
          simp only
          rw [k1,k2]
          split
          · refine (need_R hen k4).bind (fun r r' h=>(expr_R hen 20 _ _ h).bind ?_)
            rintro ⟨a,r⟩ ⟨a',r'⟩ ⟨rfl,h⟩
            exact (need_R hen h).bind (fun r r' h=>⟨rfl,h⟩)
          · exact ⟨rfl,k3⟩
      · exact ⟨rfl,h3⟩
theorem prog_R (hen:P en en'):∀ (f n:Nat) {ts us:List Tok},TokR P ts us→ResR P (fun x y=>x=y) (progK en f n ts) (progK en' f n us)
  | 0,_,_,_,_=>rfl
  | f + 1,n,ts,us,h=>by
    unfold progK
    have hl:=h.length
    by_cases h0:ts=[]
    · subst h0
      have:us=[]:=List.eq_nil_of_length_eq_zero hl.symm
      subst this
      rfl
    · have h1:us≠[]:=fun e=>h0 (by subst e;exact List.eq_nil_of_length_eq_zero hl)
      rw [if_neg h0,if_neg h1]
      have:=rule_R hen n h
      match ruleK en n ts,ruleK en' n us,this with
      | .ok (q,r),.ok (q',r'),h =>
        obtain ⟨rfl,h⟩:=h
        have:=prog_R hen f (n+1) h
        simp only
        match progK en f (n+1) r,progK en' f (n+1) r',this with
        | .ok l,.ok l',h=>exact congrArg (q :: ·) h
        | .error _,.error _,h=>exact h
      | .error _,.error _,h=>exact h
theorem read_R (hen:P en en'){ts us:List Tok}(h:TokR P ts us):ResR P (fun x y=>x=y) (readT en ts) (readT en' us):=by
  unfold readT
  rw [h.length]
  exact prog_R hen _ _ h
end
theorem tokR_kt:∀ {ts us:List Tok},ts.map kt=us.map kt→TokR (fun _ _=>True) ts us
  | [],[],_=>trivial
  | [],_::_,h=>by simp at h
  | _::_,[],h=>by simp at h
  | t::ts,u::us,h=>by
    simp only [List.map_cons,List.cons.injEq,kt,Prod.mk.injEq] at h
    exact ⟨h.1.1,h.1.2,trivial,tokR_kt h.2⟩
def Suf (f:List Tok→TR):Prop:=∀ ts t r,f ts = .ok (t,r)→r <:+ ts
theorem takeK_suf {l:List (List UInt8)}{ts:List Tok}{s:List UInt8}{r:List Tok}(h:takeK l ts=some (s,r)):∃ t,ts=t::r∧signT t=true∧s=t.text∧s∈l:=by
  cases ts with
  | nil=>cases h
  | cons t ts =>
    unfold takeK at h
    simp only at h
    split at h
    · rename_i hc
      simp only [Option.some.injEq,Prod.mk.injEq] at h
      obtain ⟨rfl,rfl⟩:=h
      exact ⟨t,rfl,hc.1,rfl,by simpa using hc.2⟩
    · cases h
theorem needK_ok {en:Nat}{s:List UInt8}{ts r:List Tok}(h:needK en s ts = .ok r):∃ t,ts=t::r∧signT t=true∧t.text=s:=by
  unfold needK at h
  split at h
  · rename_i hk
    injection h with h
    subst h
    obtain ⟨t,h1,h2,h3,h4⟩:=takeK_suf hk
    exact ⟨t,h1,h2,by rw [← h3];simpa using h4⟩
  · cases h
theorem bind_ok_iff {α β:Type}{x:Except Er α}{f:α→Except Er β}{b:β}:(x >>= f) = .ok b↔∃ a,x = .ok a∧f a = .ok b:=by
  cases x with
  | ok a=>exact ⟨fun h=>⟨a,rfl,h⟩,fun ⟨a',h1,h2⟩=>by injection h1 with h1;subst h1;exact h2⟩
  | error e=>exact ⟨fun h=>(by cases h),fun ⟨_,h,_⟩=>(by cases h)⟩
theorem need_suf {en:Nat}{s:List UInt8}{ts r:List Tok}(h:needK en s ts = .ok r):r <:+ ts:=by
  obtain ⟨t,rfl,_⟩:=needK_ok h
  exact List.suffix_cons t r
theorem leaf_suf (en:Nat):Suf (leafK en):=by
  intro ts t r h
  cases ts with
  | nil=>cases h
  | cons u ts =>
    unfold leafK at h
    simp only at h
    split at h
    · injection h with h;injection h with _ h;subst h;exact List.suffix_cons u ts
    · cases h
theorem chainK_suf {f:List Tok→TR} (hf:Suf f) {ops:List (List UInt8)}:∀ (n:Nat) (ts:List Tok) (a t:Xt) (r:List Tok),chainK f ops n ts a = .ok (t,r)→r <:+ ts
  | 0,ts,a,t,r,h=>by injection h with h;injection h with _ h;subst h;exact List.suffix_refl _
  | n + 1,ts,a,t,r,h=>by
    unfold chainK at h
    split at h
    · injection h with h;injection h with _ h;subst h;exact List.suffix_refl _
    · rename_i op r1 hk
      obtain ⟨u,rfl,_⟩:=takeK_suf hk
      split at h
      · cases h
      · rename_i b r2 h2
        exact ((chainK_suf hf n r2 _ t r h).trans (hf _ _ _ h2)).trans (List.suffix_cons u r1)
theorem chain_suf {f:List Tok→TR}(hf:Suf f){ops:List (List UInt8)}:Suf (chainT f ops):=by
  intro ts t r h
  unfold chainT at h
  split at h
  · cases h
  · rename_i a r1 h1
    exact (chainK_suf hf _ _ _ _ _ h).trans (hf _ _ _ h1)
theorem pair_suf (en:Nat){f:List Tok→TR}(hf:Suf f)(op:List UInt8):Suf (pairK en f op):=by
  intro ts t r h
  unfold pairK at h
  obtain ⟨r1,h1,h⟩:=bind_ok_iff.1 h
  obtain ⟨⟨a,r2⟩,h2,h⟩:=bind_ok_iff.1 h
  obtain ⟨r3,h3,h⟩:=bind_ok_iff.1 h
  obtain ⟨⟨b,r4⟩,h4,h⟩:=bind_ok_iff.1 h
  obtain ⟨r5,h5,h⟩:=bind_ok_iff.1 h
  injection h with h;injection h with _ h;subst h
  exact ((((need_suf h5).trans (hf _ _ _ h4)).trans (need_suf h3)).trans (hf _ _ _ h2)).trans (need_suf h1)
theorem ite_suf (en:Nat){f:List Tok→TR}(hf:Suf f):Suf (iteK en f):=by
  intro ts t r h
  unfold iteK at h
  obtain ⟨⟨a,r1⟩,h1,h⟩:=bind_ok_iff.1 h
  obtain ⟨r2,h2,h⟩:=bind_ok_iff.1 h
  obtain ⟨⟨b,r3⟩,h3,h⟩:=bind_ok_iff.1 h
  obtain ⟨r4,h4,h⟩:=bind_ok_iff.1 h
  obtain ⟨⟨c,r5⟩,h5,h⟩:=bind_ok_iff.1 h
  injection h with h;injection h with _ h;subst h
  exact ((((hf _ _ _ h5).trans (need_suf h4)).trans (hf _ _ _ h3)).trans (need_suf h2)).trans (hf _ _ _ h1)
theorem fac_suf (en:Nat) {f g:List Tok→TR} (hf:Suf f) (hg:Suf g):Suf (facK en f g):=by
  intro ts t r h
  unfold facK at h
  split at h
  · rename_i s r1 hk
    obtain ⟨u,rfl,_⟩:=takeK_suf hk
    obtain ⟨⟨a,r2⟩,h1,h⟩:=bind_ok_iff.1 h
    injection h with h;injection h with _ h;subst h
    exact (hf _ _ _ h1).trans (List.suffix_cons u r1)
  · split at h
    · rename_i s r1 hk
      obtain ⟨u,rfl,_⟩:=takeK_suf hk
      exact (pair_suf en hg _ _ _ _ h).trans (List.suffix_cons u r1)
    · split at h
      · rename_i s r1 hk
        obtain ⟨u,rfl,_⟩:=takeK_suf hk
        obtain ⟨⟨a,r2⟩,h1,h⟩:=bind_ok_iff.1 h
        obtain ⟨r3,h3,h⟩:=bind_ok_iff.1 h
        injection h with h;injection h with _ h;subst h
        exact ((need_suf h3).trans (hg _ _ _ h1)).trans (List.suffix_cons u r1)
      · exact leaf_suf en _ _ _ h
theorem cmp_suf {f:List Tok→TR}(hf:Suf f):Suf (cmpT f):=by
  intro ts t r h
  unfold cmpT at h
  obtain ⟨⟨a,r1⟩,h1,h⟩:=bind_ok_iff.1 h
  simp only at h
  split at h
  · rename_i op r2 hk
    obtain ⟨u,rfl,_⟩:=takeK_suf hk
    obtain ⟨⟨b,r3⟩,h3,h⟩:=bind_ok_iff.1 h
    injection h with h;injection h with _ h;subst h
    exact ((hf _ _ _ h3).trans (List.suffix_cons u r2)).trans (hf _ _ _ h1)
  · injection h with h;injection h with _ h;subst h
    exact hf _ _ _ h1
theorem exprK_suf (en:Nat){f g:List Tok→TR}(hf:Suf f)(hg:Suf g):Suf (exprK en f g):=by
  intro ts t r h
  unfold exprK at h
  split at h
  · rename_i s r1 hk
    obtain ⟨u,rfl,_⟩:=takeK_suf hk
    exact (ite_suf en hg _ _ _ h).trans (List.suffix_cons u r1)
  · exact cmp_suf (chain_suf (chain_suf hf)) _ _ _ h
theorem prK_suf (en:Nat):∀ d,Suf (prK en d).1∧Suf (prK en d).2
  | 0=>⟨fun ts t r h=>(by cases h),fun ts t r h=>(by cases h)⟩
  | d+1=>by
    obtain ⟨h1,h2⟩:=prK_suf en d
    exact ⟨fac_suf en h1 h2,exprK_suf en (fac_suf en h1 h2) h2⟩
theorem chain_fuel {f:List Tok→TR} (hf:Suf f) {ops:List (List UInt8)}:∀ (n m:Nat) (ts:List Tok) (a:Xt),ts.length≤n→ts.length≤m→chainK f ops n ts a=chainK f ops m ts a
  | 0,m,ts,a,hn,_=>by
    have:ts=[]:=List.eq_nil_of_length_eq_zero (Nat.le_zero.1 hn)
    subst this
    cases m <;> simp [chainK,takeK]
  | n+1,0,ts,a,_,hm=>by
    have:ts=[]:=List.eq_nil_of_length_eq_zero (Nat.le_zero.1 hm)
    subst this
    simp [chainK,takeK]
  | n + 1,m+1,ts,a,hn,hm=>by
    unfold chainK
    cases hk:takeK ops ts with
    | none=>rfl
    | some p =>
      obtain ⟨op,r⟩:=p
      obtain ⟨u,rfl,_⟩:=takeK_suf hk
      simp only [List.length_cons] at hn hm
      simp only
      cases h:f r with
      | error e=>rfl
      | ok p =>
        obtain ⟨b,r2⟩:=p
        have:=(hf _ _ _ h).length_le
        exact chain_fuel hf n m r2 _ (by omega) (by omega)
section
variable {en en':Nat}
end
def binOps:List (List UInt8):=cmpL++sumL++mulL++[wMin,wMax]
def WfT:Xt→Prop
  | .leaf op _ _=>op=wWhole∨op=wAmount∨op=wRate∨op=wName
  | .neg e=>WfT e
  | .bin op a b=>op∈binOps∧WfT a∧WfT b
  | .ite a b c=>WfT a∧WfT b∧WfT c
def Wf (f:List Tok→TR):Prop:=∀ ts t r,f ts = .ok (t,r)→WfT t
theorem leaf_wf (en:Nat):Wf (leafK en):=by
  intro ts t r h
  cases ts with
  | nil=>cases h
  | cons u ts =>
    unfold leafK at h
    simp only at h
    split at h
    · rename_i e he
      injection h with h;injection h with h _;subst h
      unfold leafE at he
      repeat' split at he
      all_goals first|(injection he with he;subst he;simp [WfT])|cases he
    · cases h
theorem chainK_wf {f:List Tok→TR} (hf:Wf f) {ops:List (List UInt8)} (ho:∀ o∈ops,o∈binOps):∀ (n:Nat) (ts:List Tok) (a t:Xt) (r:List Tok),WfT a→chainK f ops n ts a = .ok (t,r)→WfT t
  | 0,ts,a,t,r,ha,h=>by injection h with h;injection h with h _;subst h;exact ha
  | n + 1,ts,a,t,r,ha,h=>by
    unfold chainK at h
    split at h
    · injection h with h;injection h with h _;subst h;exact ha
    · rename_i op r1 hk
      obtain ⟨u,_,_,_,hm⟩:=takeK_suf hk
      split at h
      · cases h
      · rename_i b r2 h2
        exact chainK_wf hf ho n r2 _ t r (show WfT (.bin op a b) from ⟨ho _ hm,ha,hf _ _ _ h2⟩) h
theorem chain_wf {f:List Tok→TR}(hf:Wf f){ops:List (List UInt8)}(ho:∀ o∈ops,o∈binOps):Wf (chainT f ops):=by
  intro ts t r h
  unfold chainT at h
  split at h
  · cases h
  · rename_i a r1 h1
    exact chainK_wf hf ho _ _ _ _ _ (hf _ _ _ h1) h
theorem pair_wf (en:Nat){f:List Tok→TR}(hf:Wf f){op:List UInt8}(ho:op∈binOps):Wf (pairK en f op):=by
  intro ts t r h
  unfold pairK at h
  obtain ⟨r1,h1,h⟩:=bind_ok_iff.1 h
  obtain ⟨⟨a,r2⟩,h2,h⟩:=bind_ok_iff.1 h
  obtain ⟨r3,h3,h⟩:=bind_ok_iff.1 h
  obtain ⟨⟨b,r4⟩,h4,h⟩:=bind_ok_iff.1 h
  obtain ⟨r5,h5,h⟩:=bind_ok_iff.1 h
  injection h with h;injection h with h _;subst h
  exact ⟨ho,hf _ _ _ h2,hf _ _ _ h4⟩
theorem ite_wf (en:Nat){f:List Tok→TR}(hf:Wf f):Wf (iteK en f):=by
  intro ts t r h
  unfold iteK at h
  obtain ⟨⟨a,r1⟩,h1,h⟩:=bind_ok_iff.1 h
  obtain ⟨r2,h2,h⟩:=bind_ok_iff.1 h
  obtain ⟨⟨b,r3⟩,h3,h⟩:=bind_ok_iff.1 h
  obtain ⟨r4,h4,h⟩:=bind_ok_iff.1 h
  obtain ⟨⟨c,r5⟩,h5,h⟩:=bind_ok_iff.1 h
  injection h with h;injection h with h _;subst h
  exact ⟨hf _ _ _ h1,hf _ _ _ h3,hf _ _ _ h5⟩
theorem fac_wf (en:Nat) {f g:List Tok→TR} (hf:Wf f) (hg:Wf g):Wf (facK en f g):=by
  intro ts t r h
  unfold facK at h
  split at h
  · obtain ⟨⟨a,r2⟩,h1,h⟩:=bind_ok_iff.1 h
    injection h with h;injection h with h _;subst h
    show WfT a
    exact hf _ _ _ h1
  · split at h
    · rename_i s r1 hk
      obtain ⟨u,_,_,_,hm⟩:=takeK_suf hk
      refine pair_wf en hg ?_ _ _ _ h
      simp only [List.mem_cons,List.not_mem_nil,or_false] at hm
      rcases hm with rfl|rfl <;> decide
    · split at h
      · obtain ⟨⟨a,r2⟩,h1,h⟩:=bind_ok_iff.1 h
        obtain ⟨r3,h3,h⟩:=bind_ok_iff.1 h
        injection h with h;injection h with h _;subst h
        exact hg _ _ _ h1
      · exact leaf_wf en _ _ _ h
theorem cmp_wf {f:List Tok→TR}(hf:Wf f):Wf (cmpT f):=by
  intro ts t r h
  unfold cmpT at h
  obtain ⟨⟨a,r1⟩,h1,h⟩:=bind_ok_iff.1 h
  simp only at h
  split at h
  · rename_i op r2 hk
    obtain ⟨u,_,_,_,hm⟩:=takeK_suf hk
    obtain ⟨⟨b,r3⟩,h3,h⟩:=bind_ok_iff.1 h
    injection h with h;injection h with h _;subst h
    refine ⟨?_,hf _ _ _ h1,hf _ _ _ h3⟩
    unfold binOps
    simp only [List.mem_append]
    exact .inl (.inl (.inl hm))
  · injection h with h;injection h with h _;subst h
    exact hf _ _ _ h1
theorem exprK_wf (en:Nat){f g:List Tok→TR}(hf:Wf f)(hg:Wf g):Wf (exprK en f g):=by
  intro ts t r h
  unfold exprK at h
  split at h
  · exact ite_wf en hg _ _ _ h
  · exact cmp_wf (chain_wf (chain_wf hf (by decide)) (by decide)) _ _ _ h
theorem prK_wf (en:Nat):∀ d,Wf (prK en d).1∧Wf (prK en d).2
  | 0=>⟨fun ts t r h=>(by cases h),fun ts t r h=>(by cases h)⟩
  | d+1=>by
    obtain ⟨h1,h2⟩:=prK_wf en d
    exact ⟨fac_wf en h1 h2,exprK_wf en (fac_wf en h1 h2) h2⟩
theorem rule_wf {en n:Nat} {ts:List Tok} {q:RT} {r:List Tok} (h:ruleK en n ts = .ok (q,r)):WfT q.tree:=by
  unfold ruleK at h
  split at h
  · cases h
  · split at h
    · cases h
    · split at h
      · split at h
        · cases h
        · split at h
          · obtain ⟨r3,h3,h⟩:=bind_ok_iff.1 h
            obtain ⟨⟨e,r4⟩,h4,h⟩:=bind_ok_iff.1 h
            obtain ⟨r5,h5,h⟩:=bind_ok_iff.1 h
            injection h with h;injection h with h _;subst h
            exact (prK_wf en 20).2 _ _ _ h4
          · cases h
      · cases h
theorem prog_wf {en:Nat}:∀ (f n:Nat) (ts:List Tok) (l:List RT),progK en f n ts = .ok l→∀ q∈l,WfT q.tree
  | 0,_,_,l,h,q,hq=>by injection h with h;subst h;cases hq
  | f + 1,n,ts,l,h,q,hq=>by
    unfold progK at h
    split at h
    · injection h with h;subst h;cases hq
    · split at h
      · cases h
      · rename_i q' r hk
        split at h
        · cases h
        · rename_i m hm
          injection h with h
          subst h
          rcases List.mem_cons.1 hq with rfl|hq
          · exact rule_wf hk
          · exact prog_wf f _ _ _ hm q hq
theorem rulesOf_len:∀ (l:List RT)(n:Nat),(rulesOf n l).length=l.length
  | [],n=>rfl
  | q::l,n=>by simp [rulesOf,rulesOf_len l]
end Pay
end
/- Plain laws: a token ahead of anything that is no part of it; a sum of numbers, from the left. -/
section
set_option linter.unusedSimpArgs false
set_option linter.unusedVariables false
namespace Pay
def Stop (u r:List UInt8):Prop:=∀ d u' c r',u=d::u'→r=c::r' →
  (letB d=true→wordB c=false)∧(digB d=true→numB c=false)∧(u'=[]→¬((d=60∧(c=61∨c=62))∨(d=62∧c=61)))
theorem run_all {p:UInt8→Bool}:∀ {u:List UInt8},runN p u=u.length→u.all p=true
  | [],_=>rfl
  | c :: u,h=>by
    rw [runN,List.takeWhile_cons] at h
    cases hc:p c with
    | false=>rw [hc] at h;simp at h
    | true =>
      rw [hc] at h
      simp only [if_true,List.length_cons,Nat.add_right_cancel_iff] at h
      simp only [List.all_cons,hc,Bool.true_and]
      exact run_all (u:=u) h
theorem Good.stop {k:Int} {u:List UInt8} (h:Good k u) {r:List UInt8} (hs:Stop u r):oneS (u++r)=(k,u.length):=by
  have e:=h.self
  obtain ⟨d,u',rfl⟩:=h.cons
  have hs:∀ c r',r=c::r'→_:=fun c r' hr=>hs d u' c r' rfl hr
  rw [List.cons_append]
  rw [oneS_cons] at e ⊢
  by_cases h1:letB d=true
  · rw [if_pos h1] at e ⊢
    by_cases h2:runN wordB (d::u')>12
    · rw [if_pos h2] at e
      exact absurd (congrArg Prod.fst e).symm h.ne
    · rw [if_neg h2] at e
      have hl:runN wordB (d::u')=(d::u').length:=congrArg Prod.snd e
      have ha:=runN_app (p:=wordB) (u:=d::u') (r:=r) (run_all hl) (fun c r' hr=>(hs c r' hr).1 h1)
      rw [List.cons_append] at ha
      rw [ha,if_neg (by omega)]
      rw [← e,hl]
  · rw [if_neg h1] at e ⊢
    by_cases h2:digB d=true
    · rw [if_pos h2] at e ⊢
      have hl:runN numB (d::u')=(d::u').length:=congrArg Prod.snd e
      have ha:=runN_app (p:=numB) (u:=d::u') (r:=r) (run_all hl) (fun c r' hr=>(hs c r' hr).2.1 h2)
      rw [List.cons_append] at ha
      rw [hl,List.take_length] at e
      rw [ha,← e,show (d::(u'++r)).take (d::u').length=d::u' by rw [← List.cons_append];simp]
    · rw [if_neg h2] at e ⊢
      by_cases h3:signN (d::u')=0
      · rw [if_pos h3] at e
        exact absurd (congrArg Prod.fst e).symm h.ne
      · rw [if_neg h3] at e
        have hl:signN (d::u')=(d::u').length:=congrArg Prod.snd e
        have hc:signSet.contains d=true:=by
          rw [signN_eq] at h3
          cases hc:signSet.contains d with
          | true=>rfl
          | false=>rw [hc] at h3;exact absurd rfl h3
        have key:signN (d::(u'++r))=(d::u').length:=by
          rw [signN_eq,if_pos hc] at hl ⊢
          cases u' with
          | nil =>
            cases r with
            | nil=>exact hl
            | cons c r =>
              have:=(hs c r rfl).2.2 rfl
              simp only [List.nil_append,signR]
              rw [if_neg this]
              rfl
          | cons c u'=>exact hl
        rw [key,if_neg (by simp),← e,hl]
theorem lex_stop {k:Int}{u:List UInt8}(h:Good k u){r:List UInt8}(hs:Stop u r)(p:Nat):lexT p (u++r)=lexPut k u p (lexT (p+u.length) r):=by
  have e:=h.stop hs
  rw [lexT_tok (by rw [e];exact h.ne),e]
  simp
theorem stop_sep {u r:List UInt8}(h:sepHead r):Stop u r:=by
  intro d u' c r' _ hr
  have hc:c=32∨c=10:=h c r' hr
  rcases hc with rfl|rfl
  · exact ⟨fun _=>by decide,fun _=>by decide,fun _=>by simp⟩
  · exact ⟨fun _=>by decide,fun _=>by decide,fun _=>by simp⟩
theorem semi_good:Good 5 [59]:=by
  have:=good_of (t:=[59]) (by decide)
  exact this
def toks (l:List (Int × List UInt8)):List Tok:=l.map fun x=>⟨x.1,x.2,0⟩
theorem toks_kt (l:List (Int × List UInt8)):(toks l).map kt=l:=by
  unfold toks
  rw [List.map_map]
  conv=>rhs;rw [← List.map_id l]
  rfl
theorem take_other {l:List (List UInt8)}{s:List UInt8}(h:l.contains s=false)(k:Int)(p:Nat)(r:List Tok):takeK l (⟨k,s,p⟩::r)=none:=by
  unfold takeK
  simp only
  rw [if_neg]
  rintro ⟨_,h2⟩
  rw [h] at h2;cases h2
theorem prog_nil {en:Nat}(f n:Nat):progK en f n [] = .ok []:=by cases f <;> simp [progK]
end Pay
end
/- Plain laws: each expression but the roots is a part of just one, behind it. -/
section
set_option linter.unusedSimpArgs false
set_option linter.unusedVariables false
namespace Pay
def partsX (x:Xpr):List Int:=if x.op=wNeg then [x.a] else if binOps.contains x.op=true then [x.a,x.b] else if x.op=wIf then [x.a,x.b,x.c] else []
def leafOps:List (List UInt8):=[wWhole,wAmount,wRate,wName]
def WfX (x:Xpr):Prop:=x.op∈leafOps∨x.op=wNeg∨x.op∈binOps∨x.op=wIf
def Ahead (n:Nat)(xs:List Xpr):Prop:=∀ j x,xs[j]? = some x→WfX x∧∀ q∈partsX x,0≤q∧q<(n+j:Nat)
theorem Ahead.app {n:Nat}{xs ys:List Xpr}(h:Ahead n xs)(g:Ahead (n+xs.length) ys):Ahead n (xs++ys):=by
  intro j x hx
  rcases Nat.lt_or_ge j xs.length with hj|hj
  · rw [List.getElem?_append_left hj] at hx;exact h j x hx
  · rw [List.getElem?_append_right hj] at hx
    have:=g _ x hx
    rw [show n+xs.length+(j-xs.length)=n+j by omega] at this
    exact this
theorem Ahead.one {n:Nat}{x:Xpr}(h:WfX x)(g:∀ q∈partsX x,0≤q∧q<(n:Int)):Ahead n [x]:=by
  intro j y hy
  cases j with
  | zero =>
    simp only [List.getElem?_cons_zero,Option.some.injEq] at hy
    subst hy
    exact ⟨h,g⟩
  | succ j=>simp at hy
theorem bin_op {op:List UInt8}(h:op∈binOps):op≠wNeg∧binOps.contains op=true∧op≠wIf:=by
  refine ⟨?_,by simpa using h,?_⟩
  · rintro rfl;exact absurd h (by decide)
  · rintro rfl;exact absurd h (by decide)
def ind (a b m:Int):Nat:=if a≤m∧m<b then 1 else 0
theorem parse_cases (s:List UInt8):((parseP s).2.2≠0∧(parseP s).1=⟨[],[]⟩)∨∃ l,(∀ q∈l,WfT q.tree)∧parseP s=(progOf l,0,0):=by
  unfold parseP
  cases hl:lexS s with|mk ts o =>
  cases o with
  | some e=>exact .inl ⟨(by decide:(2:Int)≠0),rfl⟩
  | none =>
    simp only
    rw [parseT_eq]
    cases hr:readT s.length ts with
    | error e =>
      left
      have h:=prog_corr s.length ts.length (x:=ps0 ts) rfl
      rw [show progK s.length ts.length (ps0 ts).rules.length (ps0 ts).ts = .error e from hr] at h
      exact ⟨h.1,rfl⟩
    | ok l=>exact .inr ⟨l,prog_wf _ _ _ _ hr,rfl⟩
theorem bin_list {op:List UInt8}(h:op∈binOps):op=[60]∨op=[60,61]∨op=[61]∨op=[60,62]∨op=[62]∨op=[62,61]∨op=[43]∨op=[45]∨op=[42]∨op=wMin∨op=wMax:=by
  simpa [binOps] using h
end Pay
end
/- The text of rules, plainly: as the program writes it. -/
section
set_option linter.unusedSimpArgs false
set_option linter.unusedVariables false
namespace Pay
open Go
def lvlS (op:List UInt8):Int :=
  if op=wIf then 0 else if cmpL.contains op=true then 1 else if sumL.contains op=true then 2 else if op=[42] then 3 else 4
def leafW (x:Xpr):List UInt8 :=
  if x.op=wWhole then Lib.itoa x.val else if x.op=wAmount then (textS x.val).1 else if x.op=wRate then (rateTextS x.val).1 else if x.op=wName then x.name else []
inductive It where
  | s (u:List UInt8)
  | x (i least:Int)
def encIt:It→List D
  | .s u=>[.str u,dI 0,dI 0]
  | .x i l=>[.str [],dI i,dI l]
def partsW (x:Xpr):List It :=
  if leafW x≠[] then [.s (leafW x)]
  else if x.op=wNeg then [.s [45],.x x.a 4]
  else if x.op=wMin∨x.op=wMax then [.s (x.op++[40]),.x x.a 0,.s [44,32],.x x.b 0,.s [41]]
  else if x.op=wIf then [.s [105,102,32],.x x.a 0,.s [32,116,104,101,110,32],.x x.b 0,.s [32,101,108,115,101,32],.x x.c 0]
  else [.x x.a (max (lvlS x.op) 2),.s ([32]++x.op++[32]),.x x.b (lvlS x.op+1)]
def openW (x:Xpr)(least:Int):List It:=if lvlS x.op<least then .s [40]::partsW x++[.s [41]] else partsW x
def frontS:List It→List UInt8 × List It
  | .s u::r=>(u++(frontS r).1,(frontS r).2)
  | r=>([],r)
def wrM (es:List Xpr):Nat→List It→List UInt8
  | 0,_=>[]
  | k + 1,st=>(frontS st).1++(match (frontS st).2 with
    | .x i l::r=>(match es[i.toNat]? with
      | some x=>wrM es k (openW x l++r)
      | none=>[])
    | _=>[])
def writeW (es:List Xpr)(i:Int):List UInt8:=wrM es (es.length+1) [.x i 0]
def lineW (es:List Xpr)(r:Rul):List UInt8:=r.kind++[32]++r.name++[32,61,32]++writeW es r.root++[59,10]
def textW (p:Prog):List UInt8:=p.rules.flatMap (lineW p.exprs)
def shPartOk (n:Nat)(q:Int):Bool:=decide (0≤q)&&decide (q<max (n:Int) 1)
def soundX (n:Nat)(x:Xpr):Bool:=shPartOk n x.a&&shPartOk n x.b&&shPartOk n x.c&&decide (x.op.length≤12)&&decide (x.name.length≤12)
def soundXs:Nat→List Xpr→Bool
  | _,[]=>true
  | n,x::xs=>soundX n x&&soundXs (n+1) xs
def soundR (n:Nat)(r:Rul):Bool:=decide (0≤r.root)&&decide (r.root<(n:Int))&&decide (r.kind.length≤12)&&decide (r.name.length≤12)
def soundP (p:Prog):Bool:=soundXs 0 p.exprs&&p.rules.all (soundR p.exprs.length)&&decide (p.rules.length≤60)
def showW (p:Prog):List UInt8 × Int :=
  if soundP p=true∧(parseP (textW p)).2.2=0∧(parseP (textW p)).1=p then (textW p,0) else ([],1)
def exprW (p:Prog)(i:Int):List UInt8 × Int :=
  if (showW p).2=0∧0≤i∧i<(p.exprs.length:Int) then (writeW p.exprs i,0) else ([],1)
theorem front_s (u:List UInt8)(r:List It):frontS (.s u::r)=(u++(frontS r).1,(frontS r).2):=rfl
theorem front_x (i l:Int)(r:List It):frontS (.x i l::r)=([],.x i l::r):=rfl
theorem wrM_s (es:List Xpr)(k:Nat)(u:List UInt8)(r:List It):wrM es (k+1) (.s u::r)=u++wrM es (k+1) r:=by
  simp only [wrM,front_s,List.append_assoc]
theorem wrM_x {es:List Xpr}{i:Int}{x:Xpr}(hx:es[i.toNat]? = some x)(k:Nat)(l:Int)(r:List It):wrM es (k+1) (.x i l::r)=wrM es k (openW x l++r):=by
  simp only [wrM,front_x,hx,List.nil_append]
theorem wrM_nil (es:List Xpr)(k:Nat):wrM es k []=[]:=by cases k <;> rfl
end Pay
end
/- A tree's text, its tokens; the text is read to the tokens, the tokens to the tree. -/
section
set_option linter.unusedSimpArgs false
set_option linter.unusedVariables false
namespace Pay
open Go
def heldS (b:Bool)(s:List UInt8):List UInt8:=if b then 40::(s++[41]) else s
abbrev Kt:=Int × List UInt8
def heldK (b:Bool)(s:List Kt):List Kt:=if b then (5,[40])::(s++[(5,[41])]) else s
def mmB (op:List UInt8):Bool:=op==wMin||op==wMax
def lvT:Xt→Int
  | .leaf _ _ _=>4
  | .neg _=>4
  | .bin op _ _=>lvlS op
  | .ite _ _ _=>0
def kdL (op:List UInt8):Int:=if op=wName then 1 else if op=wWhole then 2 else if op=wAmount then 3 else 4
def prT:Xt→Int→List UInt8
  | .leaf op nm v,_=>leafW (xLeaf op nm v)
  | .neg e,_=>45::prT e 4
  | .bin op a b,L=>if mmB op=true then op++40::(prT a 0++44::32::(prT b 0++[41])) else heldS (decide (lvlS op<L)) (prT a (max (lvlS op) 2)++32::(op++32::prT b (lvlS op+1)))
  | .ite a b c,L=>heldS (decide (0<L)) (wIf++32::(prT a 0++32::(wThen++32::(prT b 0++32::(wElse++32::prT c 0)))))
def tkT:Xt→Int→List Kt
  | .leaf op nm v,_=>[(kdL op,leafW (xLeaf op nm v))]
  | .neg e,_=>(5,[45])::tkT e 4
  | .bin op a b,L=>if mmB op=true then (1,op)::(5,[40])::(tkT a 0++(5,[44])::(tkT b 0++[(5,[41])])) else heldK (decide (lvlS op<L)) (tkT a (max (lvlS op) 2)++(5,op)::tkT b (lvlS op+1))
  | .ite a b c,L=>heldK (decide (0<L)) ((1,wIf)::(tkT a 0++(1,wThen)::(tkT b 0++(1,wElse)::tkT c 0)))
def ndT:Xt→Int→Nat
  | .leaf _ _ _,_=>1
  | .neg e,_=>ndT e 4+1
  | .bin op a b,L=>if mmB op=true then max (ndT a 0) (ndT b 0)+1 else max (ndT a (max (lvlS op) 2)) (ndT b (lvlS op+1))+(if lvlS op<L then 1 else 0)
  | .ite a b c,L=>max (ndT a 0) (max (ndT b 0) (ndT c 0))+1+(if 0<L then 1 else 0)
def IRange (v:Int):Prop := -9223372036854775808≤v∧v≤9223372036854775807
def LfOk (op nm:List UInt8)(v:Int):Prop:=leafE ⟨kdL op,leafW (xLeaf op nm v),0⟩=some (.leaf op nm v)∧Good (kdL op) (leafW (xLeaf op nm v))∧IRange v
def WfP:Xt→Prop
  | .leaf op nm v=>LfOk op nm v
  | .neg e=>WfP e
  | .bin op a b=>op∈binOps∧WfP a∧WfP b
  | .ite a b c=>WfP a∧WfP b∧WfP c
def cl (r:List UInt8):Prop:=∀ c r',r=c::r'→c=32∨c=41∨c=44∨c=59
theorem cl_cons {c:UInt8}{r:List UInt8}(h:c=32∨c=41∨c=44∨c=59):cl (c::r):=fun _ _ e=>by cases e;exact h
theorem cl_stop {u r:List UInt8}(h:cl r):Stop u r:=by
  intro d u' c r' _ hr
  rcases h c r' hr with rfl|rfl|rfl|rfl
  all_goals exact ⟨fun _=>by decide,fun _=>by decide,fun _=>by simp⟩
theorem sign_stop {d:UInt8}(h:d=40∨d=45)(r:List UInt8):Stop [d] r:=by
  intro d' u' c r' e hr
  simp only [List.cons.injEq] at e
  obtain ⟨rfl,rfl⟩:=e
  rcases h with rfl|rfl
  all_goals exact ⟨fun h=>absurd h (by decide),fun h=>absurd h (by decide),fun _ h=>by simp at h⟩
theorem word_stop {u r:List UInt8}(h:∀ d u',u=d::u'→letB d=true):Stop u (40::r):=by
  intro d u' c r' e hr
  simp only [List.cons.injEq] at hr
  obtain ⟨rfl,rfl⟩:=hr
  have:=h d u' e
  refine ⟨fun _=>by decide,fun _=>by decide,fun _=>by simp⟩
def Rd (r:List UInt8)(l:List Kt):Prop:=∀ p,Same2 (lexT p r) l
theorem Rd.put {k:Int}{u r:List UInt8}{l:List Kt}(h:Good k u)(hs:Stop u r)(hr:Rd r l):Rd (u++r) ((k,u)::l):=fun p=>by
  rw [lex_stop h hs]
  exact Same2.put (hr _)
theorem Rd.blank {r:List UInt8}{l:List Kt}(hr:Rd r l):Rd (32::r) l:=fun p=>by
  rw [lexT_blank (.inl rfl)]
  exact hr _
theorem Rd.line {r:List UInt8}{l:List Kt}(hr:Rd r l):Rd (10::r) l:=fun p=>by
  rw [lexT_blank (.inr rfl)]
  exact hr _
theorem Rd.nil:Rd [] []:=fun p=>⟨rfl,rfl⟩
theorem good_40:Good 5 [40]:=by have:=good_of (t:=[40]) (by decide);exact this
theorem good_41:Good 5 [41]:=by have:=good_of (t:=[41]) (by decide);exact this
theorem good_44:Good 5 [44]:=by have:=good_of (t:=[44]) (by decide);exact this
theorem good_45:Good 5 [45]:=by have:=good_of (t:=[45]) (by decide);exact this
theorem good_61:Good 5 [61]:=by have:=good_of (t:=[61]) (by decide);exact this
theorem good_if:Good 1 wIf:=by have:=good_of (t:=wIf) (by decide);exact this
theorem good_then:Good 1 wThen:=by have:=good_of (t:=wThen) (by decide);exact this
theorem good_else:Good 1 wElse:=by have:=good_of (t:=wElse) (by decide);exact this
theorem mm_op {op:List UInt8}(h:mmB op=true):op=wMin∨op=wMax:=by simpa [mmB] using h
theorem good_mm {op:List UInt8}(h:mmB op=true):Good 1 op:=by
  rcases mm_op h with rfl|rfl
  · have:=good_of (t:=wMin) (by decide);exact this
  · have:=good_of (t:=wMax) (by decide);exact this
theorem good_bin {op:List UInt8}(h:op∈binOps)(hm:mmB op=false):Good 5 op:=by
  rcases bin_list h with rfl|rfl|rfl|rfl|rfl|rfl|rfl|rfl|rfl|rfl|rfl
  · have:=good_of (t:=[60]) (by decide);exact this
  · have:=good_of (t:=[60,61]) (by decide);exact this
  · have:=good_of (t:=[61]) (by decide);exact this
  · have:=good_of (t:=[60,62]) (by decide);exact this
  · have:=good_of (t:=[62]) (by decide);exact this
  · have:=good_of (t:=[62,61]) (by decide);exact this
  · have:=good_of (t:=[43]) (by decide);exact this
  · have:=good_of (t:=[45]) (by decide);exact this
  · have:=good_of (t:=[42]) (by decide);exact this
  · exact absurd hm (by decide)
  · exact absurd hm (by decide)
theorem held_rd {b:Bool}{s r:List UInt8}{k l:List Kt}(h:∀ r l,cl r→Rd r l→Rd (s++r) (k++l))(hc:cl r)(hr:Rd r l):Rd (heldS b s++r) (heldK b k++l):=by
  cases b with
  | false=>exact h r l hc hr
  | true =>
    have:=Rd.put good_40 (sign_stop (.inl rfl) _) (h ([41]++r) ((5,[41])::l) (cl_cons (.inr (.inl rfl))) (Rd.put good_41 (cl_stop hc) hr))
    simpa [heldS,heldK] using this
theorem lexP:∀ (t:Xt) (L:Int),WfP t→∀ (r:List UInt8) (l:List Kt),cl r→Rd r l→Rd (prT t L++r) (tkT t L++l)
  | .leaf op nm v,L,h,r,l,hc,hr=>Rd.put h.2.1 (cl_stop hc) hr
  | .neg e,L,h,r,l,hc,hr=>Rd.put good_45 (sign_stop (.inr rfl) _) (lexP e 4 h r l hc hr)
  | .bin op a b,L,h,r,l,hc,hr=>by
    obtain ⟨h1,h2,h3⟩:=h
    unfold prT tkT
    cases hm:mmB op with
    | true =>
      simp only [if_true,hm,List.append_assoc,List.cons_append]
      have e1:=Rd.put good_41 (cl_stop hc) hr
      have e2:=lexP b 0 h3 _ _ (cl_cons (.inr (.inl rfl))) e1
      have e3:=Rd.put (u:=[44]) good_44 (cl_stop (cl_cons (.inl rfl))) e2.blank
      have e4:=lexP a 0 h2 _ _ (cl_cons (.inr (.inr (.inl rfl)))) e3
      have e5:=Rd.put (u:=[40]) good_40 (sign_stop (.inl rfl) _) e4
      have e6:=Rd.put (good_mm hm) (word_stop (by
        intro d u' e
        rcases mm_op hm with rfl|rfl
        · injection e with e _;subst e;decide
        · injection e with e _;subst e;decide)) e5
      simpa using e6
    | false =>
      simp only [Bool.false_eq_true,if_false,hm]
      refine held_rd (fun r l hc hr => ?_) hc hr
      have e1:=lexP b (lvlS op+1) h3 r l hc hr
      have e2:=Rd.put (good_bin h1 hm) (cl_stop (cl_cons (.inl rfl))) e1.blank
      have e3:=lexP a (max (lvlS op) 2) h2 _ _ (cl_cons (.inl rfl)) e2.blank
      simpa using e3
  | .ite a b c,L,h,r,l,hc,hr=>by
    obtain ⟨h1,h2,h3⟩:=h
    unfold prT tkT
    refine held_rd (fun r l hc hr => ?_) hc hr
    have e1:=lexP c 0 h3 r l hc hr
    have e2:=Rd.put good_else (cl_stop (cl_cons (.inl rfl))) e1.blank
    have e3:=lexP b 0 h2 _ _ (cl_cons (.inl rfl)) e2.blank
    have e4:=Rd.put good_then (cl_stop (cl_cons (.inl rfl))) e3.blank
    have e5:=lexP a 0 h1 _ _ (cl_cons (.inl rfl)) e4.blank
    have e6:=Rd.put good_if (cl_stop (cl_cons (.inl rfl))) e5.blank
    simpa using e6
end Pay
end
/- The tokens of a tree's text are read to the tree. -/
section
set_option linter.unusedSimpArgs false
set_option linter.unusedVariables false
namespace Pay
open Go
theorem toks_app (l m:List Kt):toks (l++m)=toks l++toks m:=by simp [toks]
theorem toks_cons (k:Int)(u:List UInt8)(l:List Kt):toks ((k,u)::l)=⟨k,u,0⟩::toks l:=rfl
theorem toks_nil:toks []=[]:=rfl
theorem chain_none {f:List Tok→TR}{ops:List (List UInt8)}{r:List Tok}(h:takeK ops r=none):∀ (n:Nat)(a:Xt),chainK f ops n r a = .ok (a,r)
  | 0,a=>rfl
  | n+1,a=>by unfold chainK;rw [h]
theorem take_yes {l:List (List UInt8)}{k:Int}{u:List UInt8}{p:Nat}{r:List Tok}(hk:k=1∨k=5)(h:l.contains u=true):takeK l (⟨k,u,p⟩::r)=some (u,r):=by
  unfold takeK
  simp only
  rw [if_pos]
  refine ⟨?_,h⟩
  rcases hk with rfl|rfl <;> rfl
theorem need_yes {en:Nat}{k:Int}{u:List UInt8}{p:Nat}{r:List Tok}(hk:k=1∨k=5):needK en [] r=needK en [] r∧needK en u (⟨k,u,p⟩::r) = .ok r:=by
  refine ⟨rfl,?_⟩
  unfold needK
  rw [take_yes hk (by simp)]
theorem fac_suf' (en d:Nat):Suf (facT en d):=(prK_suf en d).1
theorem prod_suf' (en d:Nat):Suf (prodT (facT en d)):=chain_suf (fac_suf' en d)
theorem chain_step1 {f:List Tok→TR}(hf:Suf f){ops:List (List UInt8)}{k:Int}{op:List UInt8}{p:Nat}{a b:Xt}{m r:List Tok}(hk:k=1∨k=5)(ho:ops.contains op=true)(hb:f m = .ok (b,r)) :
    chainK f ops (⟨k,op,p⟩::m).length (⟨k,op,p⟩::m) a=chainK f ops r.length r (.bin op a b):=by
  rw [List.length_cons]
  have e:∀ n,chainK f ops (n+1) (⟨k,op,p⟩::m) a=match takeK ops (⟨k,op,p⟩::m) with
    | none=>.ok (a,⟨k,op,p⟩::m)
    | some (op,r)=>match f r with
      | .error e=>.error e
      | .ok (b,r')=>chainK f ops n r' (.bin op a b):=fun _=>rfl
  rw [e,take_yes hk ho]
  simp only [hb]
  have:=(hf _ _ _ hb).length_le
  exact chain_fuel hf _ _ _ _ this (Nat.le_refl _)
structure RdT (en:Nat) (t:Xt):Prop where
  f4:∀ d r,ndT t 4≤d→facT en d (toks (tkT t 4)++r) = .ok (t,r)
  f3:∀ d r,ndT t 3≤d→prodT (facT en d) (toks (tkT t 3)++r)=chainK (facT en d) mulL r.length r t
  f2:∀ d r,ndT t 2≤d→takeK mulL r=none→sumT (facT en d) (toks (tkT t 2)++r)=chainK (prodT (facT en d)) sumL r.length r t
  f0:∀ d r,ndT t 0≤d→takeK mulL r=none→takeK sumL r=none→takeK cmpL r=none→exprT en d (toks (tkT t 0)++r) = .ok (t,r)
section
variable {en:Nat}{t:Xt}
theorem r3of4 (e:tkT t 3=tkT t 4)(n:ndT t 3=ndT t 4)(h:∀ d r,ndT t 4≤d→facT en d (toks (tkT t 4)++r) = .ok (t,r)):∀ d r,ndT t 3≤d→prodT (facT en d) (toks (tkT t 3)++r)=chainK (facT en d) mulL r.length r t:=by
  intro d r hd
  unfold prodT chainT
  rw [e,h d r (by omega)]
theorem r2of3 (e:tkT t 2=tkT t 3)(n:ndT t 2=ndT t 3)(h:∀ d r,ndT t 3≤d→prodT (facT en d) (toks (tkT t 3)++r)=chainK (facT en d) mulL r.length r t):∀ d r,ndT t 2≤d→takeK mulL r=none→sumT (facT en d) (toks (tkT t 2)++r)=chainK (prodT (facT en d)) sumL r.length r t:=by
  intro d r hd hr
  unfold sumT chainT
  rw [e,h d r (by omega),chain_none hr]
theorem r0of2 (e:tkT t 0=tkT t 2)(n:ndT t 0=ndT t 2)(hi:∀ r,takeK [wIf] (toks (tkT t 0)++r)=none)(hp:1≤ndT t 0)(h:∀ d r,ndT t 2≤d→takeK mulL r=none→sumT (facT en d) (toks (tkT t 2)++r)=chainK (prodT (facT en d)) sumL r.length r t) :
    ∀ d r,ndT t 0≤d→takeK mulL r=none→takeK sumL r=none→takeK cmpL r=none→exprT en d (toks (tkT t 0)++r) = .ok (t,r):=by
  intro d r hd h1 h2 h3
  obtain ⟨d,rfl⟩:∃ k,d=k+1:=⟨d-1,by omega⟩
  rw [exprT_succ]
  unfold exprK cmpT
  rw [hi,e,h (d+1) r (by omega) h1,chain_none h2]
  simp only [bind_ok,h3]
theorem r4of0 (e:tkT t 4=(5,[40])::(tkT t 0++[(5,[41])]))(n:ndT t 4=ndT t 0+1)(h:∀ d r,ndT t 0≤d→takeK mulL r=none→takeK sumL r=none→takeK cmpL r=none→exprT en d (toks (tkT t 0)++r) = .ok (t,r)) :
    ∀ d r,ndT t 4≤d→facT en d (toks (tkT t 4)++r) = .ok (t,r):=by
  intro d r hd
  obtain ⟨d,rfl⟩:∃ k,d=k+1:=⟨d-1,by omega⟩
  rw [facT_succ,e,toks_cons,toks_app,toks_cons,toks_nil]
  unfold facK
  rw [List.cons_append,take_other (by decide),take_other (by decide),take_yes (.inr rfl) (by decide)]
  simp only [List.append_assoc,List.cons_append,List.nil_append]
  rw [h d _ (by omega) (take_other (by decide) _ _ _) (take_other (by decide) _ _ _) (take_other (by decide) _ _ _)]
  simp only [bind_ok,(need_yes (en:=en) (.inr rfl)).2]
end
theorem lf_hd {op nm:List UInt8} {v:Int} (h:LfOk op nm v) (l:List (List UInt8)) (hl:∀ u∈l,u∈takenL∨u=[45]∨u=[40]) (r:List Tok):takeK l (⟨kdL op,leafW (xLeaf op nm v),0⟩::r)=none:=by
  obtain ⟨h1,h2,_⟩:=h
  by_cases hk:kdL op=1
  · rw [hk] at h1 h2 ⊢
    refine take_other ?_ _ _ _
    cases hc:l.contains (leafW (xLeaf op nm v)) with
    | false=>rfl
    | true =>
      exfalso
      rcases hl _ (List.contains_iff_mem.1 hc) with h|h|h
      · unfold leafE at h1
        rw [if_pos rfl] at h1
        split at h1
        · rename_i hn
          unfold namedB at hn
          rw [List.contains_iff_mem.2 h] at hn
          cases hn
        · cases h1
      · rw [h] at h2
        have:=h2.self
        exact absurd (congrArg Prod.fst this) (by decide)
      · rw [h] at h2
        have:=h2.self
        exact absurd (congrArg Prod.fst this) (by decide)
  · unfold takeK
    simp only
    rw [if_neg]
    rintro ⟨hs,_⟩
    unfold signT at hs
    simp only [Bool.or_eq_true,beq_iff_eq] at hs
    rcases hs with hs|hs
    · exact hk hs
    · unfold kdL at hs
      repeat' split at hs
      all_goals omega
theorem bin_lvl {op:List UInt8}(h:op∈binOps):(mmB op=true∧lvlS op=4)∨(mmB op=false∧op∈mulL∧lvlS op=3)∨(mmB op=false∧op∈sumL∧lvlS op=2)∨(mmB op=false∧op∈cmpL∧lvlS op=1):=by
  rcases bin_list h with rfl|rfl|rfl|rfl|rfl|rfl|rfl|rfl|rfl|rfl|rfl <;> decide
theorem nd_pos:∀ (t:Xt)(L:Int),1≤ndT t L
  | .leaf _ _ _,_=>Nat.le_refl _
  | .neg _,_=>by unfold ndT;omega
  | .bin op a b,L=>by
    unfold ndT
    have:=nd_pos a (max (lvlS op) 2)
    split
    · omega
    · omega
  | .ite _ _ _,_=>by unfold ndT;omega
theorem no_if:∀ (t:Xt) (L:Int),WfP t→1≤L∨1≤lvT t→∀ r,takeK [wIf] (toks (tkT t L)++r)=none
  | .leaf op nm v,L,h,_,r=>lf_hd h _ (by decide) r
  | .neg e,L,h,_,r=>take_other (by decide) _ _ _
  | .bin op a b,L,h,hL,r=>by
    obtain ⟨h1,h2,h3⟩:=h
    unfold tkT
    cases hm:mmB op with
    | true =>
      simp only [if_true,hm]
      refine take_other ?_ _ _ _
      rcases mm_op hm with rfl|rfl <;> decide
    | false =>
      simp only [Bool.false_eq_true,if_false,hm]
      cases hd:decide (lvlS op<L) with
      | true=>exact take_other (by decide) _ _ _
      | false =>
        show takeK [wIf] (toks (tkT a (max (lvlS op) 2)++_)++r)=none
        rw [toks_app,List.append_assoc]
        exact no_if a _ h2 (.inl (by omega)) _
  | .ite a b c,L,h,hL,r=>by
    unfold tkT
    have:1≤L:=by
      rcases hL with h|h
      · exact h
      · have h:(1:Int)≤0:=h
        omega
    rw [show decide (0<L)=true from decide_eq_true (by omega)]
    exact take_other (by decide) _ _ _
theorem tk_neg (e:Xt)(L:Int):tkT (.neg e) L=(5,[45])::tkT e 4:=rfl
theorem tk_mm {op:List UInt8}(hm:mmB op=true)(a b:Xt)(L:Int):tkT (.bin op a b) L=(1,op)::(5,[40])::(tkT a 0++(5,[44])::(tkT b 0++[(5,[41])])):=if_pos hm
theorem nd_mm {op:List UInt8}(hm:mmB op=true)(a b:Xt)(L:Int):ndT (.bin op a b) L=max (ndT a 0) (ndT b 0)+1:=if_pos hm
theorem tk_bin {op:List UInt8}(hm:mmB op=false)(a b:Xt){L:Int}(h:¬lvlS op<L):tkT (.bin op a b) L=tkT a (max (lvlS op) 2)++(5,op)::tkT b (lvlS op+1):=by
  refine (if_neg (by rw [hm];simp)).trans ?_
  rw [decide_eq_false h]
  rfl
theorem tk_binp {op:List UInt8}(hm:mmB op=false)(a b:Xt){L:Int}(h:lvlS op<L):tkT (.bin op a b) L=(5,[40])::((tkT a (max (lvlS op) 2)++(5,op)::tkT b (lvlS op+1))++[(5,[41])]):=by
  refine (if_neg (by rw [hm];simp)).trans ?_
  rw [decide_eq_true h]
  rfl
theorem nd_bin {op:List UInt8}(hm:mmB op=false)(a b:Xt){L:Int}(h:¬lvlS op<L):ndT (.bin op a b) L=max (ndT a (max (lvlS op) 2)) (ndT b (lvlS op+1)):=by
  refine (if_neg (by rw [hm];simp)).trans ?_
  rw [if_neg h]
  rfl
theorem nd_binp {op:List UInt8}(hm:mmB op=false)(a b:Xt){L:Int}(h:lvlS op<L):ndT (.bin op a b) L=max (ndT a (max (lvlS op) 2)) (ndT b (lvlS op+1))+1:=by
  refine (if_neg (by rw [hm];simp)).trans ?_
  rw [if_pos h]
theorem sum_mul:∀ op∈sumL,mulL.contains op=false:=by decide
theorem cmp_mul:∀ op∈cmpL,mulL.contains op=false∧sumL.contains op=false:=by decide
theorem readP (en:Nat):∀ (t:Xt),WfP t→RdT en t
  | .leaf op nm v,h=>by
    have f4:∀ d r,ndT (.leaf op nm v) 4≤d→facT en d (toks (tkT (.leaf op nm v) 4)++r) = .ok (.leaf op nm v,r):=by
      intro d r hd
      obtain ⟨d,rfl⟩:∃ k,d=k+1:=⟨d-1,by unfold ndT at hd;omega⟩
      rw [facT_succ]
      show facK en _ _ (⟨kdL op,leafW (xLeaf op nm v),0⟩::r)=_
      unfold facK
      rw [lf_hd h _ (by decide),lf_hd h _ (by decide),lf_hd h _ (by decide)]
      show leafK en (_::r)=_
      unfold leafK
      simp only [h.1]
    have f3:=r3of4 (en:=en) (t:=.leaf op nm v) rfl rfl f4
    have f2:=r2of3 (en:=en) (t:=.leaf op nm v) rfl rfl f3
    exact ⟨f4,f3,f2,r0of2 rfl rfl (no_if _ _ h (.inr (by show (1:Int)≤4;decide))) (nd_pos _ _) f2⟩
  | .neg e,h=>by
    have ih:=readP en e h
    have f4:∀ d r,ndT (.neg e) 4≤d→facT en d (toks (tkT (.neg e) 4)++r) = .ok (.neg e,r):=by
      intro d r hd
      unfold ndT at hd
      obtain ⟨d,rfl⟩:∃ k,d=k+1:=⟨d-1,by omega⟩
      rw [facT_succ,tk_neg,toks_cons,List.cons_append]
      unfold facK
      rw [take_yes (.inr rfl) (by decide)]
      simp only [ih.f4 d r (by omega),bind_ok]
    have f3:=r3of4 (en:=en) (t:=.neg e) rfl rfl f4
    have f2:=r2of3 (en:=en) (t:=.neg e) rfl rfl f3
    exact ⟨f4,f3,f2,r0of2 rfl rfl (no_if _ _ h (.inr (by show (1:Int)≤4;decide))) (nd_pos _ _) f2⟩
  | .bin op a b,h=>by
    have hw:=h
    obtain ⟨h1,h2,h3⟩:=h
    have ia:=readP en a h2
    have ib:=readP en b h3
    rcases bin_lvl h1 with ⟨hm,hl⟩|⟨hm,ho,hl⟩|⟨hm,ho,hl⟩|⟨hm,ho,hl⟩
    · have f4:∀ d r,ndT (.bin op a b) 4≤d→facT en d (toks (tkT (.bin op a b) 4)++r) = .ok (.bin op a b,r):=by
        intro d r hd
        rw [nd_mm hm] at hd
        obtain ⟨d,rfl⟩:∃ k,d=k+1:=⟨d-1,by omega⟩
        rw [facT_succ,tk_mm hm]
        simp only [toks_cons,toks_app,toks_nil,List.cons_append,List.append_assoc,List.nil_append]
        unfold facK
        rw [take_other (by rcases mm_op hm with rfl|rfl <;> decide),take_yes (.inl rfl) (by rcases mm_op hm with rfl|rfl <;> decide)]
        simp only
        unfold pairK
        rw [(need_yes (en:=en) (.inr rfl)).2,bind_ok,ia.f0 d _ (by omega) (take_other (by decide) _ _ _) (take_other (by decide) _ _ _) (take_other (by decide) _ _ _)]
        simp only [bind_ok]
        rw [(need_yes (en:=en) (.inr rfl)).2,bind_ok,ib.f0 d _ (by omega) (take_other (by decide) _ _ _) (take_other (by decide) _ _ _) (take_other (by decide) _ _ _)]
        simp only [bind_ok]
        rw [(need_yes (en:=en) (.inr rfl)).2,bind_ok]
      have f3:=r3of4 (en:=en) (t:=.bin op a b) (by rw [tk_mm hm,tk_mm hm]) (by rw [nd_mm hm,nd_mm hm]) f4
      have f2:=r2of3 (en:=en) (t:=.bin op a b) (by rw [tk_mm hm,tk_mm hm]) (by rw [nd_mm hm,nd_mm hm]) f3
      exact ⟨f4,f3,f2,r0of2 (by rw [tk_mm hm,tk_mm hm]) (by rw [nd_mm hm,nd_mm hm]) (no_if _ _ hw (.inr (by show 1≤lvlS op;omega))) (nd_pos _ _) f2⟩
    · have e3:=tk_bin hm a b (L:=3) (by omega)
      have e2:=tk_bin hm a b (L:=2) (by omega)
      have e0:=tk_bin hm a b (L:=0) (by omega)
      have e4:=tk_binp hm a b (L:=4) (by omega)
      have n3:=nd_bin hm a b (L:=3) (by omega)
      have n2:=nd_bin hm a b (L:=2) (by omega)
      have n0:=nd_bin hm a b (L:=0) (by omega)
      have n4:=nd_binp hm a b (L:=4) (by omega)
      rw [hl] at e0 e2 e3 e4 n0 n2 n3 n4
      have f3:∀ d r,ndT (.bin op a b) 3≤d→prodT (facT en d) (toks (tkT (.bin op a b) 3)++r)=chainK (facT en d) mulL r.length r (.bin op a b):=by
        intro d r hd
        rw [n3] at hd
        rw [e3,toks_app,toks_cons,List.append_assoc,List.cons_append]
        have:ndT a 3≤d:=by have:=Nat.le_max_left (ndT a (max 3 2)) (ndT b (3+1));exact Nat.le_trans this hd
        rw [show (max 3 2:Int)=3 by decide,ia.f3 d _ this]
        exact chain_step1 (fac_suf' en d) (.inr rfl) (by simpa using ho) (ib.f4 d r (by have:=Nat.le_max_right (ndT a (max 3 2)) (ndT b (3+1));exact Nat.le_trans this hd))
      have f2:=r2of3 (en:=en) (t:=.bin op a b) (by rw [e2,e3]) (by rw [n2,n3]) f3
      have f0:=r0of2 (en:=en) (t:=.bin op a b) (by rw [e0,e2]) (by rw [n0,n2]) (no_if _ _ hw (.inr (by show 1≤lvlS op;omega))) (nd_pos _ _) f2
      exact ⟨r4of0 (by rw [e4,e0]) (by rw [n4,n0]) f0,f3,f2,f0⟩
    · have e3:=tk_binp hm a b (L:=3) (by omega)
      have e2:=tk_bin hm a b (L:=2) (by omega)
      have e0:=tk_bin hm a b (L:=0) (by omega)
      have e4:=tk_binp hm a b (L:=4) (by omega)
      have n3:=nd_binp hm a b (L:=3) (by omega)
      have n2:=nd_bin hm a b (L:=2) (by omega)
      have n0:=nd_bin hm a b (L:=0) (by omega)
      have n4:=nd_binp hm a b (L:=4) (by omega)
      rw [hl] at e0 e2 e3 e4 n0 n2 n3 n4
      have f2:∀ d r,ndT (.bin op a b) 2≤d→takeK mulL r=none→sumT (facT en d) (toks (tkT (.bin op a b) 2)++r)=chainK (prodT (facT en d)) sumL r.length r (.bin op a b):=by
        intro d r hd hr
        rw [n2] at hd
        rw [e2,toks_app,toks_cons,List.append_assoc,List.cons_append]
        have:ndT a 2≤d:=by have:=Nat.le_max_left (ndT a (max 2 2)) (ndT b (2+1));exact Nat.le_trans this hd
        rw [show (max 2 2:Int)=2 by decide,ia.f2 d _ this (take_other (sum_mul op ho) _ _ _)]
        refine chain_step1 (prod_suf' en d) (.inr rfl) (by simpa using ho) ?_
        rw [show (2+1:Int)=3 by decide,ib.f3 d r (by have:=Nat.le_max_right (ndT a (max 2 2)) (ndT b (2+1));exact Nat.le_trans this hd),chain_none hr]
      have f0:=r0of2 (en:=en) (t:=.bin op a b) (by rw [e0,e2]) (by rw [n0,n2]) (no_if _ _ hw (.inr (by show 1≤lvlS op;omega))) (nd_pos _ _) f2
      have f4:=r4of0 (en:=en) (t:=.bin op a b) (by rw [e4,e0]) (by rw [n4,n0]) f0
      exact ⟨f4,r3of4 (by rw [e3,e4]) (by rw [n3,n4]) f4,f2,f0⟩
    · have e3:=tk_binp hm a b (L:=3) (by omega)
      have e2:=tk_binp hm a b (L:=2) (by omega)
      have e0:=tk_bin hm a b (L:=0) (by omega)
      have e4:=tk_binp hm a b (L:=4) (by omega)
      have n3:=nd_binp hm a b (L:=3) (by omega)
      have n2:=nd_binp hm a b (L:=2) (by omega)
      have n0:=nd_bin hm a b (L:=0) (by omega)
      have n4:=nd_binp hm a b (L:=4) (by omega)
      rw [hl] at e0 e2 e3 e4 n0 n2 n3 n4
      have f0:∀ d r,ndT (.bin op a b) 0≤d→takeK mulL r=none→takeK sumL r=none→takeK cmpL r=none→exprT en d (toks (tkT (.bin op a b) 0)++r) = .ok (.bin op a b,r):=by
        intro d r hd r1 r2 r3
        have hif:=no_if (.bin op a b) 0 hw (.inr (by show 1≤lvlS op;omega)) r
        have hp:=nd_pos (.bin op a b) 0
        rw [n0] at hd hp
        obtain ⟨d,rfl⟩:∃ k,d=k+1:=⟨d-1,by omega⟩
        rw [exprT_succ]
        unfold exprK cmpT
        rw [hif,e0,toks_app,toks_cons,List.append_assoc,List.cons_append]
        have ha:ndT a 2≤d+1:=by have:=Nat.le_max_left (ndT a (max 1 2)) (ndT b (1+1));exact Nat.le_trans this hd
        have hb:ndT b 2≤d+1:=by have:=Nat.le_max_right (ndT a (max 1 2)) (ndT b (1+1));exact Nat.le_trans this hd
        simp only
        rw [show (max 1 2:Int)=2 by decide,show (1+1:Int)=2 by decide,ia.f2 (d+1) _ ha (take_other (cmp_mul op ho).1 _ _ _),chain_none (take_other (cmp_mul op ho).2 _ _ _)]
        simp only [bind_ok]
        rw [take_yes (.inr rfl) (by simpa using ho)]
        simp only
        rw [ib.f2 (d+1) _ hb r1,chain_none r2]
        rfl
      have f4:=r4of0 (en:=en) (t:=.bin op a b) (by rw [e4,e0]) (by rw [n4,n0]) f0
      have f3:=r3of4 (en:=en) (t:=.bin op a b) (by rw [e3,e4]) (by rw [n3,n4]) f4
      exact ⟨f4,f3,r2of3 (by rw [e2,e3]) (by rw [n2,n3]) f3,f0⟩
  | .ite a b c,h=>by
    obtain ⟨h1,h2,h3⟩:=h
    have ia:=readP en a h1
    have ib:=readP en b h2
    have ic:=readP en c h3
    have f0:∀ d r,ndT (.ite a b c) 0≤d→takeK mulL r=none→takeK sumL r=none→takeK cmpL r=none→exprT en d (toks (tkT (.ite a b c) 0)++r) = .ok (.ite a b c,r):=by
      intro d r hd r1 r2 r3
      have hd:max (ndT a 0) (max (ndT b 0) (ndT c 0))+1≤d:=hd
      obtain ⟨d,rfl⟩:∃ k,d=k+1:=⟨d-1,by omega⟩
      rw [exprT_succ]
      show exprK en _ _ (toks ((1,wIf)::(tkT a 0++(1,wThen)::(tkT b 0++(1,wElse)::tkT c 0)))++r)=_
      simp only [toks_cons,toks_app,List.cons_append,List.append_assoc]
      unfold exprK
      rw [take_yes (.inl rfl) (by decide)]
      simp only
      unfold iteK
      rw [ia.f0 d _ (by omega) (take_other (by decide) _ _ _) (take_other (by decide) _ _ _) (take_other (by decide) _ _ _)]
      simp only [bind_ok]
      rw [(need_yes (en:=en) (.inl rfl)).2,bind_ok,ib.f0 d _ (by omega) (take_other (by decide) _ _ _) (take_other (by decide) _ _ _) (take_other (by decide) _ _ _)]
      simp only [bind_ok]
      rw [(need_yes (en:=en) (.inl rfl)).2,bind_ok,ic.f0 d _ (by omega) r1 r2 r3]
      rfl
    have f4:=r4of0 (en:=en) (t:=.ite a b c) rfl rfl f0
    have f3:=r3of4 (en:=en) (t:=.ite a b c) rfl rfl f4
    exact ⟨f4,f3,r2of3 rfl rfl f3,f0⟩
end Pay
end
/- What is read of tokens has a text, that needs no more depth and no more ( than was there. -/
section
set_option linter.unusedSimpArgs false
set_option linter.unusedVariables false
namespace Pay
open Go
theorem good_fig {k:Int}{u:List UInt8}(h:Good k u)(h1:k≠1)(h5:k≠5):figS u=k∧∃ c r,u=c::r∧digB c=true:=by
  have e:=h.self
  obtain ⟨d,u',rfl⟩:=h.cons
  rw [oneS_cons] at e
  by_cases hl:letB d=true
  · rw [if_pos hl] at e
    split at e
    · exact absurd (congrArg Prod.fst e).symm h.ne
    · exact absurd (congrArg Prod.fst e).symm h1
  · rw [if_neg hl] at e
    by_cases hd:digB d=true
    · rw [if_pos hd] at e
      have e2:runN numB (d::u')=(d::u').length:=congrArg Prod.snd e
      rw [e2,List.take_length] at e
      exact ⟨congrArg Prod.fst e,d,u',rfl,hd⟩
    · rw [if_neg hd] at e
      split at e
      · exact absurd (congrArg Prod.fst e).symm h.ne
      · exact absurd (congrArg Prod.fst e).symm h5
theorem dg1_of {c:UInt8}(h:digB c=true):∃ d,d<10∧c=dg1 d:=by
  obtain ⟨h1,h2⟩:=digB_iff.1 h
  refine ⟨c.toNat-48,by omega,?_⟩
  unfold dg1
  rw [show 48+(c.toNat-48)=c.toNat by omega]
  exact (UInt8.ofNat_toNat).symm
theorem canon:∀ (k:Nat) (s:List UInt8),s.length=k+1→s.all digB=true→(s=[48]∨s.head? ≠ some 48)→∃ n,s=Lib.decDigits n∧n<10 ^ (k+1)∧(s≠[48]→1≤n)
  | 0,s,hl,ha,hh=>by
    obtain ⟨c,rfl⟩:=List.length_eq_one_iff.1 hl
    obtain ⟨d,hd,rfl⟩:=dg1_of (c:=c) (by simpa using ha)
    refine ⟨d,(dec_one hd).symm,by omega,fun h => ?_⟩
    rcases Nat.eq_zero_or_pos d with rfl|h'
    · exact absurd rfl h
    · exact h'
  | k + 1,s,hl,ha,hh=>by
    obtain ⟨s',c,rfl⟩:∃ s' c,s=s'++[c]:=⟨s.dropLast,s.getLast (by intro e;subst e;simp at hl),(List.dropLast_concat_getLast _).symm⟩
    have hl':s'.length=k+1:=by simp at hl;exact hl
    simp only [List.all_append,Bool.and_eq_true,List.all_cons,List.all_nil,Bool.and_true] at ha
    obtain ⟨d,hd,rfl⟩:=dg1_of ha.2
    have hne:s'.head? ≠ some 48:=by
      rcases hh with h|h
      · have:=congrArg List.length h
        simp [hl'] at this
      · cases s' with
        | nil=>simp at hl'
        | cons x xs=>simpa using h
    obtain ⟨n,e1,e2,e3⟩:=canon k s' hl' ha.1 (.inr hne)
    have h1:1≤n:=e3 (fun e=>by subst e;exact hne rfl)
    refine ⟨10*n+d,?_,?_,fun _=>by omega⟩
    · rw [dec_step (n:=10*n+d) (by omega),show (10*n+d) / 10=n by omega,show (10*n+d) % 10=d by omega,e1]
    · rw [Nat.pow_succ];omega
theorem atoi_dec {n:Nat}(h:n≤9223372036854775807):Lib.atoiAll (Lib.decDigits n) = .ok n:=by
  have hm:Lib.parseMag (Lib.decDigits n) = .ok n:=by
    obtain ⟨c,r,e,_,_⟩:=dec_head n
    have:=pu_dec n [] h
    rw [List.append_nil] at this
    rw [Lib.parseMag,if_neg (by rw [e];simp),this,Lib.parseUint10]
  obtain ⟨c,r,e,g1,g2⟩:=dec_head n
  rw [e] at hm ⊢
  have g3:¬c.toNat=45:=by omega
  have g4:¬c.toNat=43:=by omega
  rw [Lib.atoiAll]
  simp only [g3,g4,or_false,if_false,hm,false_and,not_false_eq_true,true_and]
  rw [if_neg (by omega)]
theorem whole_back {s:List UInt8}(hn:s≠[])(h:wholeB s=true):Lib.itoa (atoiV s)=s∧0≤atoiV s∧atoiV s≤9223372036854775807:=by
  simp only [wholeB,Bool.and_eq_true,decide_eq_true_eq,Bool.or_eq_true,beq_iff_eq,bne_iff_ne,ne_eq] at h
  obtain ⟨⟨h1,h2⟩,h3⟩:=h
  have hp:s.length≠0:=fun e=>hn (List.eq_nil_of_length_eq_zero e)
  obtain ⟨n,e,hlt,_⟩:=canon (s.length-1) s (by omega) h2 h3
  rw [show s.length-1+1=s.length by omega] at hlt
  have:n<10 ^ 9:=Nat.lt_of_lt_of_le hlt (Nat.pow_le_pow_right (by decide) h1)
  have hv:atoiV s=(n:Int):=by rw [atoiV,e,atoi_dec (by omega)]
  rw [hv,Lib.itoa_nonneg]
  exact ⟨e.symm,by omega,by omega⟩
theorem text_back {s:List UInt8}(h:(parseS s).2=true):(textS (parseS s).1).1=s:=by
  obtain ⟨h1,h2,h3⟩:=parseS_ok h
  rw [textS_eq (decide_eq_true h2) (by omega)]
  exact h1.symm
theorem rate_back' {s:List UInt8}(h:(rateP s).2=true):(rateTextS (rateP s).1).1=s∧0≤(rateP s).1∧(rateP s).1≤10000:=by
  unfold rateP at h ⊢
  split at h
  · rename_i hc
    rw [if_pos hc]
    obtain ⟨c1,c2,c3⟩:=hc
    have hr:=rateR_iff.1 c3
    refine ⟨?_,hr⟩
    unfold rateTextS
    rw [if_pos c3]
    show textR (parseS (cutSuf s [37]).1).1++[37]=s
    rw [← (parseS_ok c2).1]
    unfold cutSuf at c1 ⊢
    split at c1
    · rename_i hs
      rw [if_pos hs]
      simp only [hasSuf,Bool.and_eq_true,decide_eq_true_eq,beq_iff_eq] at hs
      have e:=List.take_append_drop (s.length-[37].length) s
      exact (congrArg (List.take (s.length-[37].length) s ++ ·) hs.2).symm.trans e
    · cases c1
  · cases h
theorem leaf_ok {t:Tok}(hg:Good t.kind t.text){x:Xt}(h:leafE t=some x):∃ op nm v,x = .leaf op nm v∧LfOk op nm v∧kdL op=t.kind∧leafW (xLeaf op nm v)=t.text∧IRange v:=by
  have key:∀ op nm v,x = .leaf op nm v→kdL op=t.kind→leafW (xLeaf op nm v)=t.text→IRange v→∃ op nm v,x = .leaf op nm v∧LfOk op nm v∧kdL op=t.kind∧leafW (xLeaf op nm v)=t.text∧IRange v:=by
    intro op nm v e1 e2 e3 e4
    refine ⟨op,nm,v,e1,⟨?_,by rw [e2,e3];exact hg,e4⟩,e2,e3,e4⟩
    rw [← e1,← h]
    exact leafE_R e2 e3
  unfold leafE at h
  by_cases h1:t.kind=1
  · rw [if_pos h1] at h
    split at h
    · injection h with h
      exact key _ _ _ h.symm h1.symm rfl ⟨by decide,by decide⟩
    · cases h
  rw [if_neg h1] at h
  by_cases h2:t.kind=2
  · rw [if_pos h2] at h
    injection h with h
    obtain ⟨f,c,r,e,_⟩:=good_fig hg h1 (by omega)
    rw [h2] at f
    have hw:wholeB t.text=true:=by
      unfold figS at f
      repeat' split at f
      all_goals first|omega|assumption
    obtain ⟨b1,b2,b3⟩:=whole_back (by rw [e];simp) hw
    exact key _ _ _ h.symm h2.symm b1 ⟨by show _≤atoiV t.text;omega,b3⟩
  rw [if_neg h2] at h
  by_cases h3:t.kind=3
  · rw [if_pos h3] at h
    injection h with h
    obtain ⟨f,_⟩:=good_fig hg h1 (by omega)
    rw [h3] at f
    have hw:(parseS t.text).2=true:=by
      unfold figS at f
      repeat' split at f
      all_goals first|omega|assumption
    have hb:=parseS_ok hw
    exact key _ _ _ h.symm h3.symm (text_back hw) ⟨by show _≤(parseS t.text).1;omega,hb.2.2⟩
  rw [if_neg h3] at h
  by_cases h4:t.kind=4
  · rw [if_pos h4] at h
    injection h with h
    obtain ⟨f,_⟩:=good_fig hg h1 (by omega)
    rw [h4] at f
    have hw:(rateP t.text).2=true:=by
      unfold figS at f
      repeat' split at f
      all_goals first|omega|assumption
    have hb:=rate_back' hw
    exact key _ _ _ h.symm h4.symm hb.1 ⟨by show _≤(rateP t.text).1;omega,by show (rateP t.text).1≤_;omega⟩
  rw [if_neg h4] at h
  cases h
def cK (l:List Kt):Nat:=(l.map (·.2)).count [40]
def cT (ts:List Tok):Nat:=(ts.map (·.text)).count [40]
theorem cK_cons (k:Int)(u:List UInt8)(l:List Kt):cK ((k,u)::l)=cK l+(if u=[40] then 1 else 0):=by
  simp only [cK,List.map_cons,List.count_cons,beq_iff_eq]
theorem cK_app (l m:List Kt):cK (l++m)=cK l+cK m:=by simp [cK]
theorem cK_nil:cK []=0:=rfl
theorem cT_cons (t:Tok)(l:List Tok):cT (t::l)=cT l+(if t.text=[40] then 1 else 0):=by
  simp only [cT,List.map_cons,List.count_cons,beq_iff_eq]
theorem cK_held (b:Bool)(s:List Kt):cK (heldK b s)=cK s+(if b=true then 1 else 0):=by
  cases b with
  | false=>rfl
  | true=>simp [heldK,cK_cons,cK_app,cK_nil]
theorem tk_bin' {op:List UInt8}(hm:mmB op=false)(a b:Xt)(L:Int):tkT (.bin op a b) L=heldK (decide (lvlS op<L)) (tkT a (max (lvlS op) 2)++(5,op)::tkT b (lvlS op+1)):=if_neg (by rw [hm];simp)
theorem nd_bin' {op:List UInt8}(hm:mmB op=false)(a b:Xt)(L:Int):ndT (.bin op a b) L=max (ndT a (max (lvlS op) 2)) (ndT b (lvlS op+1))+(if lvlS op<L then 1 else 0):=if_neg (by rw [hm];simp)
theorem tk_ite (a b c:Xt)(L:Int):tkT (.ite a b c) L=heldK (decide (0<L)) ((1,wIf)::(tkT a 0++(1,wThen)::(tkT b 0++(1,wElse)::tkT c 0))):=rfl
theorem nd_ite (a b c:Xt)(L:Int):ndT (.ite a b c) L=max (ndT a 0) (max (ndT b 0) (ndT c 0))+1+(if 0<L then 1 else 0):=rfl
theorem nd_mono {t:Xt} {L M:Int} (h:L≤M):ndT t L≤ndT t M∧cK (tkT t L)≤cK (tkT t M):=by
  cases t with
  | leaf op nm v=>exact ⟨Nat.le_refl _,Nat.le_refl _⟩
  | neg e=>exact ⟨Nat.le_refl _,Nat.le_refl _⟩
  | bin op a b =>
    cases hm:mmB op with
    | true=>rw [nd_mm hm,nd_mm hm,tk_mm hm,tk_mm hm];exact ⟨Nat.le_refl _,Nat.le_refl _⟩
    | false =>
      rw [nd_bin' hm,nd_bin' hm,tk_bin' hm,tk_bin' hm,cK_held,cK_held]
      by_cases h1:lvlS op<L
      · have h2:lvlS op<M:=by omega
        simp [h1,h2]
      · simp [h1]
  | ite a b c =>
    rw [nd_ite,nd_ite,tk_ite,tk_ite,cK_held,cK_held]
    by_cases h1:(0:Int)<L
    · have h2:(0:Int)<M:=by omega
      simp [h1,h2]
    · simp [h1]
theorem nd_up (t:Xt)(L:Int):ndT t L≤ndT t 0+1∧cK (tkT t L)≤cK (tkT t 0)+1:=by
  cases t with
  | leaf op nm v=>exact ⟨Nat.le_succ _,Nat.le_succ _⟩
  | neg e=>exact ⟨Nat.le_succ _,Nat.le_succ _⟩
  | bin op a b =>
    cases hm:mmB op with
    | true=>rw [nd_mm hm,nd_mm hm,tk_mm hm,tk_mm hm];exact ⟨Nat.le_succ _,Nat.le_succ _⟩
    | false =>
      rw [nd_bin' hm,nd_bin' hm,tk_bin' hm,tk_bin' hm,cK_held,cK_held]
      constructor
      · split <;> split <;> omega
      · split <;> split <;> omega
  | ite a b c =>
    rw [nd_ite,nd_ite,tk_ite,tk_ite,cK_held,cK_held]
    constructor
    · split <;> split <;> omega
    · split <;> split <;> omega
def AllG (ts:List Tok):Prop:=∀ x∈ts,Good x.kind x.text
theorem AllG.tail {t:Tok}{ts:List Tok}(h:AllG (t::ts)):AllG ts:=fun x hx=>h x (List.mem_cons_of_mem _ hx)
theorem AllG.suf {r ts:List Tok}(h:AllG ts)(hs:r <:+ ts):AllG r:=fun x hx=>h x (hs.mem hx)
structure FitT (L:Int) (d:Nat) (ts:List Tok) (t:Xt) (r:List Tok):Prop where
  wf:WfP t
  nd:ndT t L≤d
  cnt:cT r+cK (tkT t L)≤cT ts
  all:AllG r
def Fit (L:Int)(d:Nat)(f:List Tok→TR):Prop:=∀ ts t r,AllG ts→f ts = .ok (t,r)→FitT L d ts t r
theorem FitT.down {L M:Int}{d:Nat}{ts r:List Tok}{t:Xt}(h:FitT M d ts t r)(hl:L≤M):FitT L d ts t r :=
  ⟨h.wf,Nat.le_trans (nd_mono hl).1 h.nd,by have:=(nd_mono (t:=t) hl).2;have:=h.cnt;omega,h.all⟩
theorem leaf_fit (en d:Nat):Fit 4 (d+1) (leafK en):=by
  intro ts t r hg h
  cases ts with
  | nil=>cases h
  | cons u ts =>
    unfold leafK at h
    simp only at h
    split at h
    · rename_i e he
      injection h with h;injection h with h1 h2
      subst h1;subst h2
      obtain ⟨op,nm,v,rfl,k1,k2,k3,_⟩:=leaf_ok (hg u (by simp)) he
      refine ⟨k1,by show 1≤d+1;omega,?_,hg.tail⟩
      show cT _+cK [(kdL op,leafW (xLeaf op nm v))]≤_
      rw [cK_cons,cT_cons,k3,cK_nil]
      omega
    · cases h
theorem need_cnt {en:Nat}{s:List UInt8}{ts r:List Tok}(hg:AllG ts)(h:needK en s ts = .ok r):AllG r∧cT ts=cT r+(if s=[40] then 1 else 0):=by
  obtain ⟨t,rfl,_,h2⟩:=needK_ok h
  exact ⟨hg.tail,by rw [cT_cons,h2]⟩
theorem take_cnt {l:List (List UInt8)}{s:List UInt8}{ts r:List Tok}(hg:AllG ts)(h:takeK l ts=some (s,r)):AllG r∧s∈l∧cT ts=cT r+(if s=[40] then 1 else 0):=by
  obtain ⟨t,rfl,_,h2,h3⟩:=takeK_suf h
  exact ⟨hg.tail,h3,by rw [cT_cons,h2]⟩
theorem chainK_fit {L:Int} {d:Nat} {f:List Tok→TR} (hf:Fit (L+1) d f) (hL:2≤L) {ops:List (List UInt8)} (ho:∀ o∈ops,o∈binOps∧mmB o=false∧lvlS o=L) :
    ∀ (n:Nat) (ts:List Tok) (a t:Xt) (r:List Tok),AllG ts→WfP a→ndT a L≤d→chainK f ops n ts a = .ok (t,r)→WfP t∧ndT t L≤d∧cT r+cK (tkT t L)≤cT ts+cK (tkT a L)∧AllG r
  | 0,ts,a,t,r,hg,hw,hn,h=>by
    injection h with h;injection h with h1 h2;subst h1;subst h2
    exact ⟨hw,hn,Nat.le_refl _,hg⟩
  | n + 1,ts,a,t,r,hg,hw,hn,h=>by
    unfold chainK at h
    split at h
    · injection h with h;injection h with h1 h2;subst h1;subst h2
      exact ⟨hw,hn,Nat.le_refl _,hg⟩
    · rename_i op r1 hk
      obtain ⟨g1,g2,g3⟩:=take_cnt hg hk
      obtain ⟨o1,o2,o3⟩:=ho op g2
      split at h
      · cases h
      · rename_i b r2 h2
        have fb:=hf _ _ _ g1 h2
        have e1:tkT (.bin op a b) L=tkT a L++(5,op)::tkT b (L+1):=by
          rw [tk_bin o2 a b (by omega),o3,show max L 2=L by omega]
        have e2:ndT (.bin op a b) L=max (ndT a L) (ndT b (L+1)):=by
          rw [nd_bin o2 a b (by omega),o3,show max L 2=L by omega]
        have ih:=chainK_fit hf hL ho n r2 (.bin op a b) t r fb.all ⟨o1,hw,fb.wf⟩ (by rw [e2];have:=fb.nd;omega) h
        refine ⟨ih.1,ih.2.1,?_,ih.2.2.2⟩
        have h3:=ih.2.2.1
        rw [e1,cK_app,cK_cons] at h3
        have:=fb.cnt
        omega
theorem chain_fit {L:Int}{d:Nat}{f:List Tok→TR}(hf:Fit (L+1) d f)(hL:2≤L){ops:List (List UInt8)}(ho:∀ o∈ops,o∈binOps∧mmB o=false∧lvlS o=L):Fit L d (chainT f ops):=by
  intro ts t r hg h
  unfold chainT at h
  split at h
  · cases h
  · rename_i a r1 h1
    have fa:=(hf _ _ _ hg h1).down (L:=L) (by omega)
    obtain ⟨k1,k2,k3,k4⟩:=chainK_fit hf hL ho _ _ _ _ _ fa.all fa.wf fa.nd h
    exact ⟨k1,k2,by have:=fa.cnt;omega,k4⟩
theorem pair_fit {en d:Nat}{f:List Tok→TR}(hf:Fit 0 d f){op:List UInt8}(hm:mmB op=true)(ho:op∈binOps):Fit 4 (d+1) (pairK en f op):=by
  intro ts t r hg h
  unfold pairK at h
  obtain ⟨r1,h1,h⟩:=bind_ok_iff.1 h
  obtain ⟨⟨a,r2⟩,h2,h⟩:=bind_ok_iff.1 h
  obtain ⟨r3,h3,h⟩:=bind_ok_iff.1 h
  obtain ⟨⟨b,r4⟩,h4,h⟩:=bind_ok_iff.1 h
  obtain ⟨r5,h5,h⟩:=bind_ok_iff.1 h
  injection h with h;injection h with e1 e2;subst e1;subst e2
  have g1:=need_cnt hg h1
  have fa:=hf _ _ _ g1.1 h2
  have g3:=need_cnt fa.all h3
  have fb:=hf _ _ _ g3.1 h4
  have g5:=need_cnt fb.all h5
  refine ⟨⟨ho,fa.wf,fb.wf⟩,?_,?_,g5.1⟩
  · rw [nd_mm hm];have:=fa.nd;have:=fb.nd;omega
  · have hop:op≠[40]:=by rcases mm_op hm with rfl|rfl <;> decide
    have:=g1.2;have:=g3.2;have:=g5.2;have:=fa.cnt;have:=fb.cnt
    rw [tk_mm hm]
    simp only [cK_cons,cK_app,cK_nil,hop,if_false,if_true,List.cons.injEq,and_true,reduceCtorEq] at *
    simp at *
    omega
theorem ite_fit {en d:Nat}{f:List Tok→TR}(hf:Fit 0 d f):Fit 0 (d+1) (iteK en f):=by
  intro ts t r hg h
  unfold iteK at h
  obtain ⟨⟨a,r1⟩,h1,h⟩:=bind_ok_iff.1 h
  obtain ⟨r2,h2,h⟩:=bind_ok_iff.1 h
  obtain ⟨⟨b,r3⟩,h3,h⟩:=bind_ok_iff.1 h
  obtain ⟨r4,h4,h⟩:=bind_ok_iff.1 h
  obtain ⟨⟨c,r5⟩,h5,h⟩:=bind_ok_iff.1 h
  injection h with h;injection h with e1 e2;subst e1;subst e2
  have fa:=hf _ _ _ hg h1
  have g2:=need_cnt fa.all h2
  have fb:=hf _ _ _ g2.1 h3
  have g4:=need_cnt fb.all h4
  have fc:=hf _ _ _ g4.1 h5
  refine ⟨⟨fa.wf,fb.wf,fc.wf⟩,?_,?_,fc.all⟩
  · rw [nd_ite,if_neg (by decide)];have:=fa.nd;have:=fb.nd;have:=fc.nd;omega
  · have:=g2.2;have:=g4.2;have:=fa.cnt;have:=fb.cnt;have:=fc.cnt
    rw [tk_ite,cK_held]
    simp only [cK_cons,cK_app] at *
    simp at *
    omega
theorem fac_fit {en d:Nat} {f g:List Tok→TR} (hf:Fit 4 d f) (hg:Fit 0 d g):Fit 4 (d+1) (facK en f g):=by
  intro ts t r ha h
  unfold facK at h
  split at h
  · rename_i s r1 hk
    obtain ⟨a1,a2,a3⟩:=take_cnt ha hk
    obtain ⟨⟨a,r2⟩,h1,h⟩:=bind_ok_iff.1 h
    injection h with h;injection h with e1 e2;subst e1;subst e2
    have fa:=hf _ _ _ a1 h1
    refine ⟨fa.wf,by show ndT a 4+1≤d+1;have:=fa.nd;omega,?_,fa.all⟩
    rw [tk_neg,cK_cons]
    have:=fa.cnt
    simp
    omega
  · split at h
    · rename_i s r1 hk
      obtain ⟨a1,a2,a3⟩:=take_cnt ha hk
      have hm:mmB s=true:=by
        simp only [List.mem_cons,List.not_mem_nil,or_false] at a2
        rcases a2 with rfl|rfl <;> decide
      have fp:=pair_fit (en:=en) hg hm (by rcases mm_op hm with rfl|rfl <;> decide) _ _ _ a1 h
      exact ⟨fp.wf,fp.nd,by have:=fp.cnt;omega,fp.all⟩
    · split at h
      · rename_i s r1 hk
        obtain ⟨a1,a2,a3⟩:=take_cnt ha hk
        obtain ⟨⟨a,r2⟩,h1,h⟩:=bind_ok_iff.1 h
        obtain ⟨r3,h3,h⟩:=bind_ok_iff.1 h
        injection h with h;injection h with e1 e2;subst e1;subst e2
        have fa:=hg _ _ _ a1 h1
        have g3:=need_cnt fa.all h3
        have hs:s=[40]:=by simpa using a2
        rw [if_pos hs] at a3
        have:=nd_up a 4
        refine ⟨fa.wf,by have:=fa.nd;omega,?_,g3.1⟩
        have:=fa.cnt;have:=g3.2
        simp at *
        omega
      · exact leaf_fit en d _ _ _ ha h
theorem cmp_fit {d:Nat}{f:List Tok→TR}(hf:Fit 2 d f):Fit 0 d (cmpT f):=by
  intro ts t r ha h
  unfold cmpT at h
  obtain ⟨⟨a,r1⟩,h1,h⟩:=bind_ok_iff.1 h
  have fa:=hf _ _ _ ha h1
  simp only at h
  split at h
  · rename_i op r2 hk
    obtain ⟨a1,a2,a3⟩:=take_cnt fa.all hk
    obtain ⟨⟨b,r3⟩,h3,h⟩:=bind_ok_iff.1 h
    injection h with h;injection h with e1 e2;subst e1;subst e2
    have fb:=hf _ _ _ a1 h3
    have ho:=(show ∀ o∈cmpL,o∈binOps∧mmB o=false∧lvlS o=1∧o≠[40] by decide) op a2
    obtain ⟨o1,o2,o3,o4⟩:=ho
    refine ⟨⟨o1,fa.wf,fb.wf⟩,?_,?_,fb.all⟩
    · rw [nd_bin o2 a b (by omega),o3]
      have:=fa.nd;have:=fb.nd
      show max (ndT a 2) (ndT b 2)≤d
      omega
    · rw [tk_bin o2 a b (by omega),o3,cK_app,cK_cons]
      have q1:cT r1+cK (tkT a 2)≤cT ts:=fa.cnt
      have q2:cT r3+cK (tkT b 2)≤cT r2:=fb.cnt
      show cT r3+(cK (tkT a 2)+(cK (tkT b 2)+_))≤cT ts
      omega
  · injection h with h;injection h with e1 e2;subst e1;subst e2
    exact fa.down (by decide)
theorem expr_fit {en d:Nat}{f g:List Tok→TR}(hf:Fit 4 (d+1) f)(hg:Fit 0 d g):Fit 0 (d+1) (exprK en f g):=by
  intro ts t r ha h
  unfold exprK at h
  split at h
  · rename_i s r1 hk
    obtain ⟨a1,a2,a3⟩:=take_cnt ha hk
    have fi:=ite_fit hg _ _ _ a1 h
    exact ⟨fi.wf,fi.nd,by have:=fi.cnt;omega,fi.all⟩
  · exact cmp_fit (chain_fit (L:=2) (chain_fit (L:=3) hf (by decide) (by decide)) (by decide) (by decide)) _ _ _ ha h
theorem prK_fit (en:Nat):∀ d,Fit 4 d (prK en d).1∧Fit 0 d (prK en d).2
  | 0=>⟨fun ts t r _ h=>(by cases h),fun ts t r _ h=>(by cases h)⟩
  | d+1=>by
    obtain ⟨h1,h2⟩:=prK_fit en d
    exact ⟨fac_fit h1 h2,expr_fit (fac_fit h1 h2) h2⟩
end Pay
end
