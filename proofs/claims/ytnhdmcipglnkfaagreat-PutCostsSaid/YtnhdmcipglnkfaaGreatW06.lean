/- Parts of a proof: Zx. -/
import Derived.Test.YtnhdmcipglnkfaaGreatW04
set_option linter.unusedVariables false
set_option linter.unusedSimpArgs false
set_option maxRecDepth 100000
set_option maxHeartbeats 4000000
section
namespace Go.E
variable{P:Program}{n:Nat}{K:kG}{e:Tm}{B w:World}{L L' L1 L2:List As}{ops:Array Oper}{l:List Oper}{S:World->Prop}{ls:List (Oper×Bool)}{d:Option Tmp}{ty:TypeId}{ps:String}{af:Array Edge}{g:Option (Nat×Bool)}{op:Op}{f:FuncId}{as9:Array Operand}{ats:Array TypeId}
class One(P:Program)(t:TypeId):Prop where h:wM P t=true
class Fo(P:Program)(s:TypeId)(i:Nat)(off:outParam Nat):Prop where h:fo P s i=some off
class Row(P:Program)(t:TypeId)(k:outParam Nat):Prop where h:Dz P t=some k
class Sz(P:Program)(t:TypeId)(k:outParam Nat):Prop where h:(P.info? t).map (·.size)=some k
class Zc(P:Program)(t:TypeId)(cs:outParam (List Value)):Prop where h:zc P t=some cs
class gB(P:Program)(t:TypeId)(el:outParam TypeId):Prop where h:P.underlying t=some (.slice el)
class Str(P:Program)(t:TypeId):Prop where h:P.underlying t=some .string
class Qg(P:Program)(t:TypeId)(zs:outParam (List Value))(pl:outParam (List (Nat×Nat))):Prop where h:D8 P t=some (zs,pl)
class KO(P:Program)(s:TypeId)(i:Nat)(off:outParam Nat):Prop where h:fv P s i=some (off,1,false)
class Ss(P:Program)(t:TypeId)(z:outParam Value)(sz bt:outParam Nat):Prop where h:sB P t=some (z,sz,bt)
class En(P:Program)(f:FuncId):Prop where h:nH P f
class DA(P:Program)(M:outParam Nat):Prop where h:∀f:FuncId,Nat.beq (Nat.land (Nat.shiftRight M f) 1) 1=true->nH P f
class BZ(L:List As)(b:Nat)(cs:outParam (List Value)):Prop where h:(∃t,At L (bl b cs t))\/∃t,At L (rb b cs t)
theorem BZ.s{A:As}{b:Nat}{cs:List Value}(h:BZ L b cs):BZ (A::L) b cs:=⟨h.h.imp (λ⟨t,m⟩=>⟨t,.s m⟩) λ⟨t,m⟩=>⟨t,.s m⟩⟩
instance (priority:=low){A:As}{b:Nat}{cs:List Value}[h:BZ L b cs]:BZ (A::L) b cs:=h.s
instance {b:Nat}{cs:List Value}{t:TypeId}:BZ (bl b cs t::L) b cs:=⟨.inl ⟨t,.z⟩⟩
instance {b:Nat}{cs:List Value}{t:TypeId}:BZ (rb b cs t::L) b cs:=⟨.inr ⟨t,.z⟩⟩
instance {b:Nat}{cs:List Value}[h:BZ L b cs]:BZ (List.append [] L) b cs:=⟨h.h⟩
instance {l:List As}{A:As}{b:Nat}{cs:List Value}[h:BZ (A::List.append l L) b cs]:BZ (List.append (A::l) L) b cs:=⟨h.h⟩
instance {l:List As}{b:Nat}{cs:List Value}[h:BZ (List.append l L) b cs]:BZ (l++L) b cs:=⟨h.h⟩
theorem SH.ac{b:Nat}{cs:List Value}(h:SH B w L)(m:BZ L b cs):∀j v,cs[j]?=some v->w.cell? ⟨b,j,none⟩=some v:=λj v hj=>by
 rcases m.h with⟨t,m⟩|⟨t,m⟩
 ·exact h.c m hj
 ·exact h.rbc m hj
theorem Hs.ac{b:Nat}{cs:List Value}(h:Hs L w)(m:BZ L b cs):∀j v,cs[j]?=some v->w.cell? ⟨b,j,none⟩=some v:=λj v hj=>by
 rcases m.h with⟨t,m⟩|⟨t,m⟩
 ·exact h.c m hj
 ·exact h.rbc m hj
inductive To:List As->List As->Prop
 |n {l:List As}:To l l
 |c {a:As} {l l' m:List As}:xG l a l'->To l' m->To l (a::m)
 |d {a:As} {l m:List As}:To l m->To (a::l) m
theorem SH.tt'{l m:List As}(t:To l m):∀p:List As,SH B w (p++l)->SH B w (p++m):=by
 induction t with
 |n=>exact λp h=>h
 |@c a l l' m r _ ih=>
  intro p h
  have h1:=h.f1 (r.pre p)
  have h2:=h1.back (xG.mid a l' p)
  have h3:=ih (p++[a]) (by simpa using h2)
  simpa using h3
 |@d a l m _ ih=>exact λp h=>ih p (h.f1 (xG.mid a l p)).drop
theorem SH.to(h:SH B w L)(t:To L L':=by repeat first
  |exact To.n
  |(apply To.c;· repeat first|exact xG.z|apply xG.s)
  |apply To.d):SH B w L':=SH.tt' t [] h
def aOc:BinOp->Bool
 |.add=>false
 |.sub=>false
 |.mul=>false
 |_=>true
inductive Fl(pl:List (Nat×Nat)):List Value->List (Nat×Value)->List Value->Prop
 |n {cs:List Value}:Fl pl cs [] cs
 |c {cs cs' cs2 vs:List Value} {r:List (Nat×Value)} {i o sz:Nat} {v:Value}:pl[i]?=some (o,sz)->v.cells=vs.toArray->sz=vs.length->Vm o cs vs cs'->Fl pl cs' r cs2->Fl pl cs ((i,v)::r) cs2
theorem IR:∀(vs:List Value) (k o:Nat) (cs:List Value),o+k+vs.length<=cs.length->(vs.zipIdx k).foldl (λ(cs:Array Value) (p:Value×Nat)=>cs.setIfInBounds (o+p.2) p.1) cs.toArray=(cs.take (o+k)++vs++cs.drop (o+k+vs.length)).toArray
 |[],k,o,cs,h=>by simp
 |v::vs,k,o,cs,h=>by
  simp only[Hd]at h
  rw[List.zipIdx_cons,List.foldl_cons,List.setIfInBounds_toArray,IR vs (k+1) o _ (by rw[tS];omega)]
  congr 1
  apply List.ext_getElem?
  intro i
  simp only[List.getElem?_append,cV,lI,tS,DN,WA,List.getElem?_set,Hd]
  repeat' split
  all_goals first
   |rfl
   |omega
   |(congr 1;omega)
   |(rw[show i-min (o+k) cs.length=(i-min (o+(k+1)) cs.length)+1 by omega];simp)
   |(rw[show i-min (o+k) cs.length=0 by omega];simp)
   |skip
theorem Fl.fill{pl:List (Nat×Nat)}{zs cs:List Value}{ivs:List (Nat×Value)}(h:Fl pl zs ivs cs):Instr.fill (λi=>pl[i]?) zs.toArray ivs=some cs.toArray:=by
 induction h with
 |n=>rfl
 |@c cs cs' cs2 vs r i o sz v h1 h2 h3 h4 _ ih=>
  obtain⟨e1,e2⟩:=h4.eq
  unfold Instr.fill
  dsimp only
  rw[h1]
  dsimp only
  rw[if_neg (by rw[h2];simp;omega),<- ih,h2]
  congr 1
  have:=IR vs 0 o cs (by omega)
  rw[P1,<- e1]at this
  rw[<- this,<- Array.foldl_toList]
  simp
theorem bi'{op:BinOp}{xt yt:TypeId}{x y:Operand}{k:IntKind}{a b:Int}{v:Value}(ho:aOc op=true)(hx:ev n e x=some (.int k a))(hy:ev n e y=some (.int k b))(hr:HO op k a b=some v):Y P n e ⟨d,.binOp op xt x y yt,ty,ps,af,g⟩ w v w:=bi hx hy hr
theorem ldC{t:TypeId}{x:Operand}{b j:Nat}{cs:List Value}{v:Value}[One P t](h:SH B w L)(hx:ev n e x=some (.pointer (some ⟨b,j,none⟩)))[m:BZ L b cs](hj:cs[j]?=some v):Y P n e ⟨d,.load t x,ty,ps,af,g⟩ w v w:=ld One.h hx (h.ac m j v hj)
theorem ldH{t:TypeId}{x:Operand}{b j:Nat}{cs:List Value}{v:Value}[One P t](h:Hs L w)(hx:ev n e x=some (.pointer (some ⟨b,j,none⟩)))[m:BZ L b cs](hj:cs[j]?=some v):Y P n e ⟨d,.load t x,ty,ps,af,g⟩ w v w:=ld One.h hx (h.ac m j v hj)
theorem lrC{t:TypeId}{x:Operand}{b:Nat}{cs:List Value}(h:SH B w L)(hx:ev n e x=some (.pointer (some ⟨b,0,none⟩)))[m:BZ L b cs]{k:Nat}[hT:Row P t k](hk:k=cs.length):Y P n e ⟨d,.load t x,ty,ps,af,g⟩ w (.agg cs.toArray) w:=kB hx (λj v hj=>by rw[wS];exact h.ac m j v hj) (hk▸hT.h)
theorem lrH{t:TypeId}{x:Operand}{b:Nat}{cs:List Value}(h:Hs L w)(hx:ev n e x=some (.pointer (some ⟨b,0,none⟩)))[m:BZ L b cs]{k:Nat}[hT:Row P t k](hk:k=cs.length):Y P n e ⟨d,.load t x,ty,ps,af,g⟩ w (.agg cs.toArray) w:=kB hx (λj v hj=>by rw[wS];exact h.ac m j v hj) (hk▸hT.h)
theorem bdF{t:TypeId}{parts:Array (Nat×Operand)}{zs:List Value}{pl:List (Nat×Nat)}{vs cs:List Value}[hb:Qg P t zs pl](hp:uU n e (parts.toList.map (·.2))=some vs)(hf:Fl pl zs ((parts.toList.map (·.1)).zip vs) cs):Y P n e ⟨d,.build t parts,ty,ps,af,g⟩ w (.agg cs.toArray) w:=bd cs hb.h hp hf.fill
theorem gMv{w':World}{v:Value}{x:Operand}(h:Y P n e ⟨d,.move x,ty,ps,af,g⟩ w v w'):Y P n e ⟨d,.move x,ty,ps,af,g⟩ w v w':=h
theorem gSg{w':World}{v:Value}{x:Operand}(h:Y P n e ⟨d,.assign x,ty,ps,af,g⟩ w v w'):Y P n e ⟨d,.assign x,ty,ps,af,g⟩ w v w':=h
theorem gFa{w':World}{v:Value}{s:TypeId}{x:Operand}{i:Nat}(h:Y P n e ⟨d,.fieldAddr s x i,ty,ps,af,g⟩ w v w'):Y P n e ⟨d,.fieldAddr s x i,ty,ps,af,g⟩ w v w':=h
theorem gL1{w':World}{v:Value}{t:TypeId}{x:Operand}[One P t](h:Y P n e ⟨d,.load t x,ty,ps,af,g⟩ w v w'):Y P n e ⟨d,.load t x,ty,ps,af,g⟩ w v w':=h
theorem gLr{w':World}{v:Value}{t:TypeId}{x:Operand}{k:Nat}[Row P t k](h:Y P n e ⟨d,.load t x,ty,ps,af,g⟩ w v w'):Y P n e ⟨d,.load t x,ty,ps,af,g⟩ w v w':=h
theorem gBi{w':World}{v:Value}{op:BinOp}{xt yt:TypeId}{x y:Operand}(h:Y P n e ⟨d,.binOp op xt x y yt,ty,ps,af,g⟩ w v w'):Y P n e ⟨d,.binOp op xt x y yt,ty,ps,af,g⟩ w v w':=h
theorem gNc{w':World}{v:Value}{x:Operand}(h:Y P n e ⟨d,.nilCheck x,ty,ps,af,g⟩ w v w'):Y P n e ⟨d,.nilCheck x,ty,ps,af,g⟩ w v w':=h
theorem gXr{w':World}{v:Value}{x:Operand}{i:Nat}(h:Y P n e ⟨d,.extract x i,ty,ps,af,g⟩ w v w'):Y P n e ⟨d,.extract x i,ty,ps,af,g⟩ w v w':=h
theorem gNt{w':World}{v:Value}{xt:TypeId}{x:Operand}(h:Y P n e ⟨d,.unOp .not xt x,ty,ps,af,g⟩ w v w'):Y P n e ⟨d,.unOp .not xt x,ty,ps,af,g⟩ w v w':=h
theorem gLn{w':World}{v:Value}{x:Operand}(h:Y P n e ⟨d,.call ⟨.builtin .len,#[x],ats⟩,ty,ps,af,g⟩ w v w'):Y P n e ⟨d,.call ⟨.builtin .len,#[x],ats⟩,ty,ps,af,g⟩ w v w':=h
theorem gMf{w':World}{v:Value}{fn:Fn}{f c:Array Operand}(h:Y P n e ⟨d,.makeFunc fn f c,ty,ps,af,g⟩ w v w'):Y P n e ⟨d,.makeFunc fn f c,ty,ps,af,g⟩ w v w':=h
theorem gBu{w':World}{v:Value}{t:TypeId}{parts:Array (Nat×Operand)}(h:Y P n e ⟨d,.build t parts,ty,ps,af,g⟩ w v w'):Y P n e ⟨d,.build t parts,ty,ps,af,g⟩ w v w':=h
theorem gFd{w':World}{v:Value}{s:TypeId}{x:Operand}{i:Nat}(h:Y P n e ⟨d,.field s x i,ty,ps,af,g⟩ w v w'):Y P n e ⟨d,.field s x i,ty,ps,af,g⟩ w v w':=h
theorem gPk{w':World}{v:Value}{c a b:Operand}(h:Y P n e ⟨d,.pick c a b,ty,ps,af,g⟩ w v w'):Y P n e ⟨d,.pick c a b,ty,ps,af,g⟩ w v w':=h
theorem gIx{w':World}{v:Value}{t:TypeId}{x i:Operand}(h:Y P n e ⟨d,.indexAddr t x i,ty,ps,af,g⟩ w v w'):Y P n e ⟨d,.indexAddr t x i,ty,ps,af,g⟩ w v w':=h
theorem ba{xt yt:TypeId}{x y:Operand}{a b:Int}(c:Int)(hx:ev n e x=some (.int .i64 a):=by rfl)(hy:ev n e y=some (.int .i64 b):=by rfl)(h1:a+b=c:=by first|omega|(dsimp only;omega))(h2:-9223372036854775808<=c:=by first|omega|(dsimp only;omega))(h3:c<=9223372036854775807:=by first|omega|(dsimp only;omega)):Y P n e ⟨d,.binOp .add xt x y yt,ty,ps,af,g⟩ w (.int .i64 c) w:=bw hx hy (iR (c:=c) h1 h2 h3)
theorem bs{xt yt:TypeId}{x y:Operand}{a b:Int}(c:Int)(hx:ev n e x=some (.int .i64 a):=by rfl)(hy:ev n e y=some (.int .i64 b):=by rfl)(h1:a-b=c:=by first|omega|(dsimp only;omega))(h2:-9223372036854775808<=c:=by first|omega|(dsimp only;omega))(h3:c<=9223372036854775807:=by first|omega|(dsimp only;omega)):Y P n e ⟨d,.binOp .sub xt x y yt,ty,ps,af,g⟩ w (.int .i64 c) w:=bw hx hy (Jb (c:=c) h1 h2 h3)
theorem ba1{xt yt:TypeId}{x y:Operand}{a:Nat}(hx:ev n e x=some (.int .i64 (a:Nat)))(hy:ev n e y=some (.int .i64 1))(h:a<9223372036854775807):Y P n e ⟨d,.binOp .add xt x y yt,ty,ps,af,g⟩ w (.int .i64 ((a+1:Nat):Int)) w:=bw hx hy (iR (c:=((a+1:Nat):Int)) (by omega) (by omega) (by omega))
theorem gTt{j t:Nat}{b:Bool}(hj:(ops[j]?).bind (·.dst)=some t)(ht:ev n e (.tmp t)=some (.bool b))(hb:b=true)(k:X P n ops (⟨d,op,ty,ps,af,none⟩::l) K e w):X P n ops (⟨d,op,ty,ps,af,some (j,true)⟩::l) K e w:=gT hj ht hb k
theorem aO6{j t:Nat}{b:Bool}{f:Bool}(hj:(ops[j]?).bind (·.dst)=some t)(ht:ev n e (.tmp t)=some (.bool b))(hb:b=true)(k:XS P n ops S ((⟨d,op,ty,ps,af,none⟩,f)::ls) K e w):XS P n ops S ((⟨d,op,ty,ps,af,some (j,true)⟩,f)::ls) K e w:=uZ hj ht hb k
theorem gTf{j t:Nat}{b:Bool}(hj:(ops[j]?).bind (·.dst)=some t)(ht:ev n e (.tmp t)=some (.bool b))(hb:b=false)(k:X P n ops (⟨d,op,ty,ps,af,none⟩::l) K e w):X P n ops (⟨d,op,ty,ps,af,some (j,false)⟩::l) K e w:=gT hj ht hb k
theorem aNx{j t:Nat}{b:Bool}{f:Bool}(hj:(ops[j]?).bind (·.dst)=some t)(ht:ev n e (.tmp t)=some (.bool b))(hb:b=false)(k:XS P n ops S ((⟨d,op,ty,ps,af,none⟩,f)::ls) K e w):XS P n ops S ((⟨d,op,ty,ps,af,some (j,false)⟩,f)::ls) K e w:=uZ hj ht hb k
theorem gFt{j t:Nat}{b:Bool}(hj:(ops[j]?).bind (·.dst)=some t)(ht:ev n e (.tmp t)=some (.bool b))(hb:b=false)(k:X P n ops l K (Tm.put e d undef) w):X P n ops (⟨d,op,ty,ps,af,some (j,true)⟩::l) K e w:=gF hj ht hb k
theorem aNr{j t:Nat}{b:Bool}{f:Bool}(hj:(ops[j]?).bind (·.dst)=some t)(ht:ev n e (.tmp t)=some (.bool b))(hb:b=false)(k:XS P n ops S ls K (Tm.put e d undef) w):XS P n ops S ((⟨d,op,ty,ps,af,some (j,true)⟩,f)::ls) K e w:=Cf hj ht hb k
theorem gFf{j t:Nat}{b:Bool}(hj:(ops[j]?).bind (·.dst)=some t)(ht:ev n e (.tmp t)=some (.bool b))(hb:b=true)(k:X P n ops l K (Tm.put e d undef) w):X P n ops (⟨d,op,ty,ps,af,some (j,false)⟩::l) K e w:=gF hj ht hb k
theorem aO4{j t:Nat}{b:Bool}{f:Bool}(hj:(ops[j]?).bind (·.dst)=some t)(ht:ev n e (.tmp t)=some (.bool b))(hb:b=true)(k:XS P n ops S ls K (Tm.put e d undef) w):XS P n ops S ((⟨d,op,ty,ps,af,some (j,false)⟩,f)::ls) K e w:=Cf hj ht hb k
theorem xzn{k:Tm->World->Prop}(h:k e w):XS P n ops S [] (kV k K) e w:=xz h
theorem xzk{r:List (Bool×List (Nat×Bool))}{S':World->Prop}(h:sK P n ops S r K .normal e w):XS P n ops S' [] (sK P n ops S r K) e w:=xz h
theorem sge(h:K .normal e w):sK P n ops S [] K .normal e w:=h
theorem xzb{i:Nat}(h:K .normal e w):XS P n ops S [] (lL i K) e w:=xz h
class aEp(vs:List Value):Prop where h:vs.all Value.oneCell'=true
theorem jO{t u:TypeId}{x y:Operand}{b o sz:Nat}{v:Value}{cs cs' vs:List Value}(h:SH B w L)(k:∀w',SH B w' L'->X P n ops l K e w')[hT:Sz P t sz](hx:ev n e x=some (.pointer (some ⟨b,o,none⟩)):=by rfl)(up:xO L L' (bl b cs u) (bl b cs' u):=by repeat first|exact xO.z|apply xO.s)(hy:ev n e y=some v:=by rfl)(hv:v.cells=vs.toArray:=by rfl)(hs:sz=vs.length:=by rfl)(h1:vs.all Value.oneCell'=true:=by first|rfl|exact aEp.h)(sp:Vm o cs vs cs':=by repeat first|exact .d|apply Vm.r|apply Vm.s):X P n ops (⟨none,.store t x y,ty,ps,af,none⟩::l) K e w:=sf (so h hx hy hv (hs▸hT.h) h1 sp up) λ_ w' h=>k w' h
theorem jQ{t u:TypeId}{x y:Operand}{b o sz:Nat}{v:Value}{cs cs' vs:List Value}(h:SH B w L)(k:∀w',SH B w' L'->S w'/\XS P n ops S ls K e w')[hT:Sz P t sz](hx:ev n e x=some (.pointer (some ⟨b,o,none⟩)):=by rfl)(up:xO L L' (bl b cs u) (bl b cs' u):=by repeat first|exact xO.z|apply xO.s)(hy:ev n e y=some v:=by rfl)(hv:v.cells=vs.toArray:=by rfl)(hs:sz=vs.length:=by rfl)(h1:vs.all Value.oneCell'=true:=by first|rfl|exact aEp.h)(sp:Vm o cs vs cs':=by repeat first|exact .d|apply Vm.r|apply Vm.s):XS P n ops S ((⟨none,.store t x y,ty,ps,af,none⟩,false)::ls) K e w:=ff (so h hx hy hv (hs▸hT.h) h1 sp up) λ_ w' h=>k w' h
theorem yC{c:Operand}{x:Code}{y:Code}(h:C P n (.cond c x y) K e w):C P n (.cond c x y) K e w:=h
theorem yO{o:Oper}(h:X P n ops (o::l) K e w):X P n ops (o::l) K e w:=h
theorem yP{p:Oper×Bool}(h:XS P n ops S (p::ls) K e w):XS P n ops S (p::ls) K e w:=h
theorem yT{t:TypeId}{x y:Operand}(h:X P n ops (⟨none,.store t x y,ty,ps,af,none⟩::l) K e w):X P n ops (⟨none,.store t x y,ty,ps,af,none⟩::l) K e w:=h
theorem yU{t:TypeId}{x y:Operand}(h:XS P n ops S ((⟨none,.store t x y,ty,ps,af,none⟩,false)::ls) K e w):XS P n ops S ((⟨none,.store t x y,ty,ps,af,none⟩,false)::ls) K e w:=h
theorem yV{x:Operand}(h:XS P n ops S ((⟨d,.assign x,ty,ps,af,none⟩,false)::ls) K e w):XS P n ops S ((⟨d,.assign x,ty,ps,af,none⟩,false)::ls) K e w:=h
theorem go{G:Prop}{G':World->Prop}(h:SH B w L)(k:∀w,SH B w L'->G' w)(r:SH B w L->(∀w,SH B w L'->G' w)->G:=by
 intro h k
 repeat first
  |(refine yO ?_;first
   |refine gTt rfl rfl (by first|assumption|rfl|exact tW (by assumption)|exact wY (by assumption)|exact gM (by omega)|exact cI (by omega)|exact Bw _|exact Bu _) ?_
   |refine gFt rfl rfl (by first|assumption|rfl|exact tW (by assumption)|exact wY (by assumption)|exact gM (by omega)|exact cI (by omega)|exact Bw _|exact Bu _) ?_
   |refine gTf rfl rfl (by first|assumption|rfl|exact tW (by assumption)|exact wY (by assumption)|exact gM (by omega)|exact cI (by omega)|exact Bw _|exact Bu _) ?_
   |refine gFf rfl rfl (by first|assumption|rfl|exact tW (by assumption)|exact wY (by assumption)|exact gM (by omega)|exact cI (by omega)|exact Bw _|exact Bu _) ?_
   |refine gU rfl rfl ?_
   |refine st (by
    first
    |(apply gFa;exact fa Fo.h rfl)
    |(apply gL1;first|exact ldC h rfl rfl|exact ld One.h rfl ((SH.rr h (by repeat first|exact At.z|apply At.s)).i (by first|omega|(dsimp only;omega)))|exact ld One.h rfl ((SH.ro h (by repeat first|exact At.z|apply At.s)).i (by first|omega|(dsimp only;omega))))
    |(apply gMv;exact mv rfl)
    |(apply gBi;first|exact bi' rfl rfl rfl rfl|exact sb rfl rfl rfl|exact ba1 rfl rfl (by first|omega|(dsimp only;omega)))
    |(apply gNc;exact nc rfl rfl)
    |(apply gXr;exact xr rfl rfl)
    |(apply gFd;exact fd KO.h rfl rfl)
    |(apply gSg;exact sg rfl)
    |(apply gLr;exact lrC h rfl rfl)
    |(apply gPk;first|exact pT rfl (by first|assumption|rfl|exact tW (by assumption)|exact wY (by assumption)|exact gM (by omega)|exact cI (by omega)|exact Bw _|exact Bu _) rfl|exact pF rfl (by first|assumption|rfl|exact tW (by assumption)|exact wY (by assumption)|exact gM (by omega)|exact cI (by omega)|exact Bw _|exact Bu _) rfl)
    |(apply gLn;first|exact ln gB.h rfl rfl|exact A9 Str.h rfl rfl)
    |(apply gNt;exact nt rfl)
    |(apply gMf;exact mf rfl rfl)
    |(apply gBu;exact bdF rfl (by repeat first|exact Fl.n|(apply Fl.c;rfl;rfl;rfl;repeat first|exact Vm.d|apply Vm.r|apply Vm.s)))
    |(apply gIx;exact ix gB.h Sz.h rfl rfl (by first|omega|(dsimp only;omega)))
    ) ?_
   |(refine yT ?_;refine jO h ?_;intro w h))
  |(refine yP ?_;first
   |refine aO6 rfl rfl (by first|assumption|rfl|exact tW (by assumption)|exact wY (by assumption)|exact gM (by omega)|exact cI (by omega)|exact Bw _|exact Bu _) ?_
   |refine aNr rfl rfl (by first|assumption|rfl|exact tW (by assumption)|exact wY (by assumption)|exact gM (by omega)|exact cI (by omega)|exact Bw _|exact Bu _) ?_
   |refine aNx rfl rfl (by first|assumption|rfl|exact tW (by assumption)|exact wY (by assumption)|exact gM (by omega)|exact cI (by omega)|exact Bw _|exact Bu _) ?_
   |refine aO4 rfl rfl (by first|assumption|rfl|exact tW (by assumption)|exact wY (by assumption)|exact gM (by omega)|exact cI (by omega)|exact Bw _|exact Bu _) ?_
   |refine gUs rfl rfl ?_
   |refine tk (λW H=>by
    first
    |(apply gFa;exact fa Fo.h rfl)
    |(apply gL1;first|exact ldH H rfl rfl|exact ld One.h rfl ((Hs.rr H (by repeat first|exact At.z|apply At.s)).i (by first|omega|(dsimp only;omega)))|exact ld One.h rfl ((Hs.ro H (by repeat first|exact At.z|apply At.s)).i (by first|omega|(dsimp only;omega))))
    |(apply gMv;exact mv rfl)
    |(apply gBi;first|exact bi' rfl rfl rfl rfl|exact sb rfl rfl rfl|exact ba1 rfl rfl (by first|omega|(dsimp only;omega)))
    |(apply gNc;exact nc rfl rfl)
    |(apply gXr;exact xr rfl rfl)
    |(apply gFd;exact fd KO.h rfl rfl)
    |(apply gSg;exact sg rfl)
    |(apply gLr;exact lrH H rfl rfl)
    |(apply gPk;first|exact pT rfl (by first|assumption|rfl|exact tW (by assumption)|exact wY (by assumption)|exact gM (by omega)|exact cI (by omega)|exact Bw _|exact Bu _) rfl|exact pF rfl (by first|assumption|rfl|exact tW (by assumption)|exact wY (by assumption)|exact gM (by omega)|exact cI (by omega)|exact Bw _|exact Bu _) rfl)
    |(apply gLn;first|exact ln gB.h rfl rfl|exact A9 Str.h rfl rfl)
    |(apply gNt;exact nt rfl)
    |(apply gMf;exact mf rfl rfl)
    |(apply gBu;exact bdF rfl (by repeat first|exact Fl.n|(apply Fl.c;rfl;rfl;rfl;repeat first|exact Vm.d|apply Vm.r|apply Vm.s)))
    |(apply gIx;exact ix gB.h Sz.h rfl rfl (by first|omega|(dsimp only;omega)))
    ) ?_
   |(refine yV ?_;refine ef (sg rfl) (by repeat first|exact hN|exact trivial|refine hC (SH.at_ h (by repeat first|exact At.z|apply At.s)) ?_|refine hC (Go.E.SH.kX h (by repeat first|exact At.z|apply At.s) λ_=>rfl) ?_|refine hC (SH.tX h (by repeat first|exact At.z|apply At.s) rfl) ?_) ?_)
   |(refine yU ?_;refine jQ h ?_;intro w h;refine⟨(by repeat first|exact hN|exact trivial|refine hC (SH.at_ h (by repeat first|exact At.z|apply At.s)) ?_|refine hC (Go.E.SH.kX h (by repeat first|exact At.z|apply At.s) λ_=>rfl) ?_|refine hC (SH.tX h (by repeat first|exact At.z|apply At.s) rfl) ?_),?_⟩))
  |refine nx ?_
  |refine sq ?_
  |refine rg ?_
  |refine xe ?_
  |(refine yC ?_;first
   |refine ct rfl (by first|assumption|rfl|exact tW (by assumption)|exact wY (by assumption)|exact gM (by omega)|exact cI (by omega)|exact Bw _|exact Bu _) ?_
   |refine cf rfl (by first|assumption|rfl|exact tW (by assumption)|exact wY (by assumption)|exact gM (by omega)|exact cI (by omega)|exact Bw _|exact Bu _) ?_)
  |refine tr ?_
  |refine rt ?_
  |refine sk ?_
  |refine tx ?_
  |refine bt ?_
  |refine bn ?_
  |refine be ?_
  |refine bk ?_
  |refine xt ?_
  |refine bo rfl ?_
  |refine xzn ?_
  |refine xzb ?_
  |refine xgT ?_
  |refine KR ?_
  |refine sgT ?_
  |refine sgF ?_
  |refine sge ?_
  |refine xzk ?_
  |refine xzS rfl ?_
 first|exact k _ h|apply k _ h):G:=r h k
theorem cN{fn:Func}{c:Code}{args:List Value}{R:Ending->World->Prop}{G':World->Prop}(hf:P.funcs[f]?=some fn)(hn:fn.ntmps=n)(h:SH B w L)(k:∀w,SH B w L'->G' w)(hb:fn.body=some c:=by rfl)(ha:Nat.ble args.length n=true:=by rfl)(r:SH B w L->(∀w,SH B w L'->G' w)->C P n c (fin P fn n R) (Qv 0 args) w:=by intro h k;exact go h k):Calls P f args.toArray w R:=Kk hf hb hn ha (r h k)
theorem jA{t:TypeId}{cs:List Value}{L1:Nat->List As}{G':Nat->World->Prop}(h:SH B w L)(k:∀b w',SH B w' (L1 b)->G' b w')[hz:Zc P t cs](r:∀b w',SH B w' (bl b cs t::L)->(∀w',SH B w' (L1 b)->G' b w')->X P n ops l K (Tm.put e d (.pointer (some ⟨b,0,none⟩))) w':=by intro b w h k;exact go h k):X P n ops (⟨d,.alloc t,ty,ps,af,none⟩::l) K e w:=sf (al h hz.h) λv w' ⟨b,e,h⟩=>e▸r b w' h (k b)
theorem jX{t:TypeId}{x:Operand}{v:Value}{cs:List Value}{L1:Nat->List As}{G':Nat->World->Prop}(h:SH B w L)(k:∀b w',SH B w' (L1 b)->G' b w')(hx:ev n e x=some v:=by rfl)(hc:v.cells=cs.toArray:=by rfl)(r:∀b w',SH B w' (bl b cs t::L)->(∀w',SH B w' (L1 b)->G' b w')->X P n ops l K (Tm.put e d (.pointer (some ⟨b,0,none⟩))) w':=by intro b w h k;exact go h k):X P n ops (⟨d,.box t x,ty,ps,af,none⟩::l) K e w:=sf (bx h hx hc) λv w' ⟨b,e,h⟩=>e▸r b w' h (k b)
theorem jB{t:TypeId}{cs:List Value}{L1:Nat->List As}{G':Nat->World->Prop}(h:SH B w L)(k:∀b w',SH B w' (L1 b)->G' b w')[hz:Zc P t cs](r:∀b w',SH B w' (bl b cs t::L)->(∀w',SH B w' (L1 b)->G' b w')->S w'/\XS P n ops S ls K (Tm.put e d (.pointer (some ⟨b,0,none⟩))) w':=by intro b w h k;refine⟨(by repeat first|exact hN|exact trivial|refine hC (SH.at_ h (by repeat first|exact At.z|apply At.s)) ?_|refine hC (Go.E.SH.kX h (by repeat first|exact At.z|apply At.s) λ_=>rfl) ?_|refine hC (SH.tX h (by repeat first|exact At.z|apply At.s) rfl) ?_),?_⟩;exact go h k):XS P n ops S ((⟨d,.alloc t,ty,ps,af,none⟩,false)::ls) K e w:=ff (al h hz.h) λv w' ⟨b,e,h⟩=>e▸r b w' h (k b)
theorem jY{t:TypeId}{x:Operand}{v:Value}{cs:List Value}{L1:Nat->List As}{G':Nat->World->Prop}(h:SH B w L)(k:∀b w',SH B w' (L1 b)->G' b w')(hx:ev n e x=some v:=by rfl)(hc:v.cells=cs.toArray:=by rfl)(r:∀b w',SH B w' (bl b cs t::L)->(∀w',SH B w' (L1 b)->G' b w')->S w'/\XS P n ops S ls K (Tm.put e d (.pointer (some ⟨b,0,none⟩))) w':=by intro b w h k;refine⟨(by repeat first|exact hN|exact trivial|refine hC (SH.at_ h (by repeat first|exact At.z|apply At.s)) ?_|refine hC (Go.E.SH.kX h (by repeat first|exact At.z|apply At.s) λ_=>rfl) ?_|refine hC (SH.tX h (by repeat first|exact At.z|apply At.s) rfl) ?_),?_⟩;exact go h k):XS P n ops S ((⟨d,.box t x,ty,ps,af,none⟩,false)::ls) K e w:=ff (bx h hx hc) λv w' ⟨b,e,h⟩=>e▸r b w' h (k b)
theorem gz{G':World->Prop}(h:SH B w L)(k:∀w,SH B w L'->G' w)(s:SH B w L->S w:=by intro h;exact(by repeat first|exact hN|exact trivial|refine hC (SH.at_ h (by repeat first|exact At.z|apply At.s)) ?_|refine hC (Go.E.SH.kX h (by repeat first|exact At.z|apply At.s) λ_=>rfl) ?_|refine hC (SH.tX h (by repeat first|exact At.z|apply At.s) rfl) ?_))(r:SH B w L->(∀w,SH B w L'->G' w)->XS P n ops S ls K e w:=by intro h k;exact go h k):S w/\XS P n ops S ls K e w:=⟨s h,r h k⟩
theorem qc{c:Operand}{x y:Code}{b:Bool}{L1 L2:List As}{G1 G2:World->Prop}(h:SH B w L)(k1:b=true->∀w,SH B w L1->G1 w)(k2:b=false->∀w,SH B w L2->G2 w)(hc:ev n e c=some (.bool b):=by rfl)(r1:SH B w L->b=true->(∀w,SH B w L1->G1 w)->C P n x K e w:=by intro h hb k;exact go h k)(r2:SH B w L->b=false->(∀w,SH B w L2->G2 w)->C P n y K e w:=by intro h hb k;exact go h k):C P n (.cond c x y) K e w:=cd hc (λhb=>r1 h hb (k1 hb)) λhb=>r2 h hb (k2 hb)
theorem qg{j t:Nat}{b c:Bool}{L1 L2:List As}{G1 G2:World->Prop}(h:SH B w L)(k1:b=true->∀w,SH B w L1->G1 w)(k2:b=false->∀w,SH B w L2->G2 w)(hj:(ops[j]?).bind (·.dst)=some t:=by rfl)(ht:ev n e (.tmp t)=some (.bool b):=by rfl)(r1:SH B w L->b=true->(∀w,SH B w L1->G1 w)->X P n ops (⟨d,op,ty,ps,af,some (j,c)⟩::l) K e w:=by intro h hb k;exact go h k)(r2:SH B w L->b=false->(∀w,SH B w L2->G2 w)->X P n ops (⟨d,op,ty,ps,af,some (j,c)⟩::l) K e w:=by intro h hb k;exact go h k):X P n ops (⟨d,op,ty,ps,af,some (j,c)⟩::l) K e w:=by
 cases hb:b with
 |true=>exact r1 h hb (k1 hb)
 |false=>exact r2 h hb (k2 hb)
def BG(n:Nat)(e:Tm)(as9:Array Operand):Array Value:=((uU n e as9.toList).getD []).toArray
theorem caA(en:nH P f)(ha:(uU n e as9.toList).isSome=true):Ca P n e ⟨d,.call ⟨.value (.func f),as9,ats⟩,ty,ps,af,g⟩ w f (BG n e as9):=by
 obtain⟨vs,hv⟩:=Option.isSome_iff_exists.1 ha
 unfold BG
 rw[hv]
 exact ca en hv
theorem jL(k:Calls P f (BG n e as9) w λx w'=>∃v,x=.returned v/\X P n ops l K (Tm.put e d v) w')(hn:nH P f:=by first|exact En.h|exact DA.h _ rfl)(ha:(uU n e as9.toList).isSome=true:=by rfl):X P n ops (⟨d,.call ⟨.value (.func f),as9,ats⟩,ty,ps,af,none⟩::l) K e w:=cl (caA hn ha) k
theorem jS(k:Calls P f (BG n e as9) w λx w'=>∃v,x=.returned v/\S w'/\XS P n ops S ls K (Tm.put e d v) w')(hn:nH P f:=by first|exact En.h|exact DA.h _ rfl)(ha:(uU n e as9.toList).isSome=true:=by rfl):XS P n ops S ((⟨d,.call ⟨.value (.func f),as9,ats⟩,ty,ps,af,none⟩,false)::ls) K e w:=cs (caA hn ha) k
theorem bQ{v:Value}{L2 L3:List As}{G':World->Prop}(c:Calls P f (BG n e as9) w λx w'=>x=.returned v/\SH B w' L2)(k:∀w',SH B w' L3->G' w')(hn:nH P f:=by first|exact En.h|exact DA.h _ rfl)(ha:(uU n e as9.toList).isSome=true:=by rfl)(r:∀w',SH B w' L2->(∀w',SH B w' L3->G' w')->X P n ops l K (Tm.put e d v) w':=by intro w h k;exact go h k):X P n ops (⟨d,.call ⟨.value (.func f),as9,ats⟩,ty,ps,af,none⟩::l) K e w:=jL (hn:=hn) (ha:=ha) (c.mono λx w' ⟨e,h⟩=>⟨_,e,r w' h (λw h=>k w h)⟩)
theorem cS{α0:Type}{v:α0->Value}{L2 L3:α0->List As}{G':α0->World->Prop}(c:Calls P f (BG n e as9) w λx w'=>∃x0:α0,x=.returned (v x0)/\SH B w' (L2 x0))(k:∀x0,∀w',SH B w' (L3 x0)->G' x0 w')(hn:nH P f:=by first|exact En.h|exact DA.h _ rfl)(ha:(uU n e as9.toList).isSome=true:=by rfl)(r:∀x0,∀w',SH B w' (L2 x0)->(∀w',SH B w' (L3 x0)->G' x0 w')->X P n ops l K (Tm.put e d (v x0)) w':=by intro x0 w h k;exact go h k):X P n ops (⟨d,.call ⟨.value (.func f),as9,ats⟩,ty,ps,af,none⟩::l) K e w:=jL (hn:=hn) (ha:=ha) (c.mono λx w' ⟨x0,e,h⟩=>⟨_,e,r x0 w' h (λw h=>k x0 w h)⟩)
theorem Zn{α0:Type}{α1:Type}{v:α0->α1->Value}{L2 L3:α0->α1->List As}{G':α0->α1->World->Prop}(c:Calls P f (BG n e as9) w λx w'=>∃x0:α0,∃x1:α1,x=.returned (v x0 x1)/\SH B w' (L2 x0 x1))(k:∀x0 x1,∀w',SH B w' (L3 x0 x1)->G' x0 x1 w')(hn:nH P f:=by first|exact En.h|exact DA.h _ rfl)(ha:(uU n e as9.toList).isSome=true:=by rfl)(r:∀x0 x1,∀w',SH B w' (L2 x0 x1)->(∀w',SH B w' (L3 x0 x1)->G' x0 x1 w')->X P n ops l K (Tm.put e d (v x0 x1)) w':=by intro x0 x1 w h k;exact go h k):X P n ops (⟨d,.call ⟨.value (.func f),as9,ats⟩,ty,ps,af,none⟩::l) K e w:=jL (hn:=hn) (ha:=ha) (c.mono λx w' ⟨x0,x1,e,h⟩=>⟨_,e,r x0 x1 w' h (λw h=>k x0 x1 w h)⟩)
theorem VX{α0:Type}{v:α0->Value}{L2 L3:α0->List As}{G':α0->World->Prop}{q:α0->Prop}(c:Calls P f (BG n e as9) w λx w'=>∃x0:α0,q x0/\x=.returned (v x0)/\SH B w' (L2 x0))(k:∀x0,q x0->∀w',SH B w' (L3 x0)->G' x0 w')(hn:nH P f:=by first|exact En.h|exact DA.h _ rfl)(ha:(uU n e as9.toList).isSome=true:=by rfl)(r:∀x0,q x0->∀w',SH B w' (L2 x0)->(∀w',SH B w' (L3 x0)->G' x0 w')->X P n ops l K (Tm.put e d (v x0)) w':=by intro x0 hq w h k;exact go h k):X P n ops (⟨d,.call ⟨.value (.func f),as9,ats⟩,ty,ps,af,none⟩::l) K e w:=jL (hn:=hn) (ha:=ha) (c.mono λx w' ⟨x0,hq,e,h⟩=>⟨_,e,r x0 hq w' h (λw h=>k x0 hq w h)⟩)
theorem lA{α0:Type}{α1:Type}{α2:Type}{v:α0->α1->α2->Value}{L2 L3:α0->α1->α2->List As}{G':α0->α1->α2->World->Prop}{q:α0->α1->α2->Prop}(c:Calls P f (BG n e as9) w λx w'=>∃x0:α0,∃x1:α1,∃x2:α2,q x0 x1 x2/\x=.returned (v x0 x1 x2)/\SH B w' (L2 x0 x1 x2))(k:∀x0 x1 x2,q x0 x1 x2->∀w',SH B w' (L3 x0 x1 x2)->G' x0 x1 x2 w')(hn:nH P f:=by first|exact En.h|exact DA.h _ rfl)(ha:(uU n e as9.toList).isSome=true:=by rfl)(r:∀x0 x1 x2,q x0 x1 x2->∀w',SH B w' (L2 x0 x1 x2)->(∀w',SH B w' (L3 x0 x1 x2)->G' x0 x1 x2 w')->X P n ops l K (Tm.put e d (v x0 x1 x2)) w':=by intro x0 x1 x2 hq w h k;exact go h k):X P n ops (⟨d,.call ⟨.value (.func f),as9,ats⟩,ty,ps,af,none⟩::l) K e w:=jL (hn:=hn) (ha:=ha) (c.mono λx w' ⟨x0,x1,x2,hq,e,h⟩=>⟨_,e,r x0 x1 x2 hq w' h (λw h=>k x0 x1 x2 hq w h)⟩)
theorem eI{α0:Type}{α1:Type}{v:α0->α1->Value}{L2 L3:α0->α1->List As}{G':α0->α1->World->Prop}{q:α0->α1->Prop}{p:α0->α1->Prop}(c:Calls P f (BG n e as9) w λx w'=>∃x0:α0,∃x1:α1,q x0 x1/\x=.returned (v x0 x1)/\SH B w' (L2 x0 x1)/\p x0 x1)(k:∀x0 x1,q x0 x1->∀w',SH B w' (L3 x0 x1)->p x0 x1->G' x0 x1 w')(hn:nH P f:=by first|exact En.h|exact DA.h _ rfl)(ha:(uU n e as9.toList).isSome=true:=by rfl)(r:∀x0 x1,q x0 x1->∀w',SH B w' (L2 x0 x1)->p x0 x1->(∀w',SH B w' (L3 x0 x1)->G' x0 x1 w')->X P n ops l K (Tm.put e d (v x0 x1)) w':=by intro x0 x1 hq w h hp k;exact go h k):X P n ops (⟨d,.call ⟨.value (.func f),as9,ats⟩,ty,ps,af,none⟩::l) K e w:=jL (hn:=hn) (ha:=ha) (c.mono λx w' ⟨x0,x1,hq,e,h,hp⟩=>⟨_,e,r x0 x1 hq w' h hp (λw h=>k x0 x1 hq w h hp)⟩)
theorem aDu{v:Value}{L2 L3:List As}{G':World->Prop}{p:Prop}(c:Calls P f (BG n e as9) w λx w'=>x=.returned v/\SH B w' L2/\p)(k:∀w',SH B w' L3->p->G' w')(hn:nH P f:=by first|exact En.h|exact DA.h _ rfl)(ha:(uU n e as9.toList).isSome=true:=by rfl)(r:∀w',SH B w' L2->p->(∀w',SH B w' L3->G' w')->X P n ops l K (Tm.put e d v) w':=by intro w h hp k;exact go h k):X P n ops (⟨d,.call ⟨.value (.func f),as9,ats⟩,ty,ps,af,none⟩::l) K e w:=jL (hn:=hn) (ha:=ha) (c.mono λx w' ⟨e,h,hp⟩=>⟨_,e,r w' h hp (λw h=>k w h hp)⟩)
theorem qB{v:Value}{L2 L3:List As}{G':World->Prop}(c:Calls P f (BG n e as9) w λx w'=>x=.returned v/\SH B w' L2)(k:∀w',SH B w' L3->G' w')(hn:nH P f:=by first|exact En.h|exact DA.h _ rfl)(ha:(uU n e as9.toList).isSome=true:=by rfl)(r:∀w',SH B w' L2->(∀w',SH B w' L3->G' w')->S w'/\XS P n ops S ls K (Tm.put e d v) w':=by intro w h k;refine⟨(by repeat first|exact hN|exact trivial|refine hC (SH.at_ h (by repeat first|exact At.z|apply At.s)) ?_|refine hC (Go.E.SH.kX h (by repeat first|exact At.z|apply At.s) λ_=>rfl) ?_|refine hC (SH.tX h (by repeat first|exact At.z|apply At.s) rfl) ?_),?_⟩;exact go h k):XS P n ops S ((⟨d,.call ⟨.value (.func f),as9,ats⟩,ty,ps,af,none⟩,false)::ls) K e w:=jS (hn:=hn) (ha:=ha) (c.mono λx w' ⟨e,h⟩=>⟨_,e,r w' h (λw h=>k w h)⟩)
theorem nP{α0:Type}{v:α0->Value}{L2 L3:α0->List As}{G':α0->World->Prop}(c:Calls P f (BG n e as9) w λx w'=>∃x0:α0,x=.returned (v x0)/\SH B w' (L2 x0))(k:∀x0,∀w',SH B w' (L3 x0)->G' x0 w')(hn:nH P f:=by first|exact En.h|exact DA.h _ rfl)(ha:(uU n e as9.toList).isSome=true:=by rfl)(r:∀x0,∀w',SH B w' (L2 x0)->(∀w',SH B w' (L3 x0)->G' x0 w')->S w'/\XS P n ops S ls K (Tm.put e d (v x0)) w':=by intro x0 w h k;refine⟨(by repeat first|exact hN|exact trivial|refine hC (SH.at_ h (by repeat first|exact At.z|apply At.s)) ?_|refine hC (Go.E.SH.kX h (by repeat first|exact At.z|apply At.s) λ_=>rfl) ?_|refine hC (SH.tX h (by repeat first|exact At.z|apply At.s) rfl) ?_),?_⟩;exact go h k):XS P n ops S ((⟨d,.call ⟨.value (.func f),as9,ats⟩,ty,ps,af,none⟩,false)::ls) K e w:=jS (hn:=hn) (ha:=ha) (c.mono λx w' ⟨x0,e,h⟩=>⟨_,e,r x0 w' h (λw h=>k x0 w h)⟩)
theorem LR{α0:Type}{α1:Type}{v:α0->α1->Value}{L2 L3:α0->α1->List As}{G':α0->α1->World->Prop}(c:Calls P f (BG n e as9) w λx w'=>∃x0:α0,∃x1:α1,x=.returned (v x0 x1)/\SH B w' (L2 x0 x1))(k:∀x0 x1,∀w',SH B w' (L3 x0 x1)->G' x0 x1 w')(hn:nH P f:=by first|exact En.h|exact DA.h _ rfl)(ha:(uU n e as9.toList).isSome=true:=by rfl)(r:∀x0 x1,∀w',SH B w' (L2 x0 x1)->(∀w',SH B w' (L3 x0 x1)->G' x0 x1 w')->S w'/\XS P n ops S ls K (Tm.put e d (v x0 x1)) w':=by intro x0 x1 w h k;refine⟨(by repeat first|exact hN|exact trivial|refine hC (SH.at_ h (by repeat first|exact At.z|apply At.s)) ?_|refine hC (Go.E.SH.kX h (by repeat first|exact At.z|apply At.s) λ_=>rfl) ?_|refine hC (SH.tX h (by repeat first|exact At.z|apply At.s) rfl) ?_),?_⟩;exact go h k):XS P n ops S ((⟨d,.call ⟨.value (.func f),as9,ats⟩,ty,ps,af,none⟩,false)::ls) K e w:=jS (hn:=hn) (ha:=ha) (c.mono λx w' ⟨x0,x1,e,h⟩=>⟨_,e,r x0 x1 w' h (λw h=>k x0 x1 w h)⟩)
theorem aIc{α0:Type}{v:α0->Value}{L2 L3:α0->List As}{G':α0->World->Prop}{q:α0->Prop}(c:Calls P f (BG n e as9) w λx w'=>∃x0:α0,q x0/\x=.returned (v x0)/\SH B w' (L2 x0))(k:∀x0,q x0->∀w',SH B w' (L3 x0)->G' x0 w')(hn:nH P f:=by first|exact En.h|exact DA.h _ rfl)(ha:(uU n e as9.toList).isSome=true:=by rfl)(r:∀x0,q x0->∀w',SH B w' (L2 x0)->(∀w',SH B w' (L3 x0)->G' x0 w')->S w'/\XS P n ops S ls K (Tm.put e d (v x0)) w':=by intro x0 hq w h k;refine⟨(by repeat first|exact hN|exact trivial|refine hC (SH.at_ h (by repeat first|exact At.z|apply At.s)) ?_|refine hC (Go.E.SH.kX h (by repeat first|exact At.z|apply At.s) λ_=>rfl) ?_|refine hC (SH.tX h (by repeat first|exact At.z|apply At.s) rfl) ?_),?_⟩;exact go h k):XS P n ops S ((⟨d,.call ⟨.value (.func f),as9,ats⟩,ty,ps,af,none⟩,false)::ls) K e w:=jS (hn:=hn) (ha:=ha) (c.mono λx w' ⟨x0,hq,e,h⟩=>⟨_,e,r x0 hq w' h (λw h=>k x0 hq w h)⟩)
theorem OI{α0:Type}{α1:Type}{α2:Type}{v:α0->α1->α2->Value}{L2 L3:α0->α1->α2->List As}{G':α0->α1->α2->World->Prop}{q:α0->α1->α2->Prop}(c:Calls P f (BG n e as9) w λx w'=>∃x0:α0,∃x1:α1,∃x2:α2,q x0 x1 x2/\x=.returned (v x0 x1 x2)/\SH B w' (L2 x0 x1 x2))(k:∀x0 x1 x2,q x0 x1 x2->∀w',SH B w' (L3 x0 x1 x2)->G' x0 x1 x2 w')(hn:nH P f:=by first|exact En.h|exact DA.h _ rfl)(ha:(uU n e as9.toList).isSome=true:=by rfl)(r:∀x0 x1 x2,q x0 x1 x2->∀w',SH B w' (L2 x0 x1 x2)->(∀w',SH B w' (L3 x0 x1 x2)->G' x0 x1 x2 w')->S w'/\XS P n ops S ls K (Tm.put e d (v x0 x1 x2)) w':=by intro x0 x1 x2 hq w h k;refine⟨(by repeat first|exact hN|exact trivial|refine hC (SH.at_ h (by repeat first|exact At.z|apply At.s)) ?_|refine hC (Go.E.SH.kX h (by repeat first|exact At.z|apply At.s) λ_=>rfl) ?_|refine hC (SH.tX h (by repeat first|exact At.z|apply At.s) rfl) ?_),?_⟩;exact go h k):XS P n ops S ((⟨d,.call ⟨.value (.func f),as9,ats⟩,ty,ps,af,none⟩,false)::ls) K e w:=jS (hn:=hn) (ha:=ha) (c.mono λx w' ⟨x0,x1,x2,hq,e,h⟩=>⟨_,e,r x0 x1 x2 hq w' h (λw h=>k x0 x1 x2 hq w h)⟩)
theorem pO{α0:Type}{α1:Type}{v:α0->α1->Value}{L2 L3:α0->α1->List As}{G':α0->α1->World->Prop}{q:α0->α1->Prop}{p:α0->α1->Prop}(c:Calls P f (BG n e as9) w λx w'=>∃x0:α0,∃x1:α1,q x0 x1/\x=.returned (v x0 x1)/\SH B w' (L2 x0 x1)/\p x0 x1)(k:∀x0 x1,q x0 x1->∀w',SH B w' (L3 x0 x1)->p x0 x1->G' x0 x1 w')(hn:nH P f:=by first|exact En.h|exact DA.h _ rfl)(ha:(uU n e as9.toList).isSome=true:=by rfl)(r:∀x0 x1,q x0 x1->∀w',SH B w' (L2 x0 x1)->p x0 x1->(∀w',SH B w' (L3 x0 x1)->G' x0 x1 w')->S w'/\XS P n ops S ls K (Tm.put e d (v x0 x1)) w':=by intro x0 x1 hq w h hp k;refine⟨(by repeat first|exact hN|exact trivial|refine hC (SH.at_ h (by repeat first|exact At.z|apply At.s)) ?_|refine hC (Go.E.SH.kX h (by repeat first|exact At.z|apply At.s) λ_=>rfl) ?_|refine hC (SH.tX h (by repeat first|exact At.z|apply At.s) rfl) ?_),?_⟩;exact go h k):XS P n ops S ((⟨d,.call ⟨.value (.func f),as9,ats⟩,ty,ps,af,none⟩,false)::ls) K e w:=jS (hn:=hn) (ha:=ha) (c.mono λx w' ⟨x0,x1,hq,e,h,hp⟩=>⟨_,e,r x0 x1 hq w' h hp (λw h=>k x0 x1 hq w h hp)⟩)
theorem aNk{α0:Type}{v:α0->Value}{L2 L3:α0->List As}{G':α0->World->Prop}{p:α0->Prop}(c:Calls P f (BG n e as9) w λx w'=>∃x0:α0,x=.returned (v x0)/\SH B w' (L2 x0)/\p x0)(k:∀x0,∀w',SH B w' (L3 x0)->p x0->G' x0 w')(hn:nH P f:=by first|exact En.h|exact DA.h _ rfl)(ha:(uU n e as9.toList).isSome=true:=by rfl)(r:∀x0,∀w',SH B w' (L2 x0)->p x0->(∀w',SH B w' (L3 x0)->G' x0 w')->S w'/\XS P n ops S ls K (Tm.put e d (v x0)) w':=by intro x0 w h hp k;refine⟨(by repeat first|exact hN|exact trivial|refine hC (SH.at_ h (by repeat first|exact At.z|apply At.s)) ?_|refine hC (Go.E.SH.kX h (by repeat first|exact At.z|apply At.s) λ_=>rfl) ?_|refine hC (SH.tX h (by repeat first|exact At.z|apply At.s) rfl) ?_),?_⟩;exact go h k):XS P n ops S ((⟨d,.call ⟨.value (.func f),as9,ats⟩,ty,ps,af,none⟩,false)::ls) K e w:=jS (hn:=hn) (ha:=ha) (c.mono λx w' ⟨x0,e,h,hp⟩=>⟨_,e,r x0 w' h hp (λw h=>k x0 w h hp)⟩)
theorem sW{v:Value}{G':World->Prop}(h:SH B w L)(c:Calls P f (BG n e as9) w λx w'=>x=.returned v/\w'=w)(k:∀w',SH B w' L1->G' w')(hn:nH P f:=by first|exact En.h|exact DA.h _ rfl)(ha:(uU n e as9.toList).isSome=true:=by rfl)(r:SH B w L->(∀w',SH B w' L1->G' w')->S w/\XS P n ops S ls K (Tm.put e d v) w:=by intro h k;refine⟨(by repeat first|exact hN|exact trivial|refine hC (SH.at_ h (by repeat first|exact At.z|apply At.s)) ?_|refine hC (Go.E.SH.kX h (by repeat first|exact At.z|apply At.s) λ_=>rfl) ?_|refine hC (SH.tX h (by repeat first|exact At.z|apply At.s) rfl) ?_),?_⟩;exact go h k):XS P n ops S ((⟨d,.call ⟨.value (.func f),as9,ats⟩,ty,ps,af,none⟩,false)::ls) K e w:=jS (hn:=hn) (ha:=ha) (c.mono λx w' ⟨e,e2⟩=>⟨_,e,by rw[e2];exact r h k⟩)
theorem rz{fn:Func}{R:Ending->World->Prop}{t:Nat}{v:Value}(h:R (.returned v) w)(hr:fn.results=#[.tmp t]:=by rfl)(hv:ev n e (.tmp t)=some v:=by rfl):fin P fn n R .ret e w:=rr (mC hr hv) h
end Go.E
end
