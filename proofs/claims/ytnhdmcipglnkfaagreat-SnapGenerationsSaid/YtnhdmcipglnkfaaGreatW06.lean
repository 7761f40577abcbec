/- Parts of a proof: Zx. -/
import Derived.Test.YtnhdmcipglnkfaaGreatW04
set_option linter.unusedVariables false
set_option linter.unusedSimpArgs false
set_option maxRecDepth 100000
set_option maxHeartbeats 4000000
section
namespace Go.E
variable{P:Program}{n:Nat}{K:iG}{e:Tm}{B w:World}{L L' L1 L2:List As}{ops:Array Oper}{l:List Oper}{S:World->Prop}{ls:List (Oper×Bool)}{d:Option Tmp}{ty:TypeId}{ps:String}{af:Array Edge}{g:Option (Nat×Bool)}{op:Op}{f:FuncId}{as9:Array Operand}{ats:Array TypeId}
class One(P:Program)(t:TypeId):Prop where h:tA P t=true
class Fo(P:Program)(s:TypeId)(i:Nat)(off:outParam Nat):Prop where h:fo P s i=some off
class Row(P:Program)(t:TypeId)(k:outParam Nat):Prop where h:xA P t=some k
class Sz(P:Program)(t:TypeId)(k:outParam Nat):Prop where h:(P.info? t).map (·.size)=some k
class Zc(P:Program)(t:TypeId)(cs:outParam (List Value)):Prop where h:zc P t=some cs
class fR(P:Program)(t:TypeId)(el:outParam TypeId):Prop where h:P.underlying t=some (.slice el)
class H7(P:Program)(t:TypeId):Prop where h:P.underlying t=some .string
class Jn(P:Program)(t:TypeId)(zs:outParam (List Value))(pl:outParam (List (Nat×Nat))):Prop where h:KY P t=some (zs,pl)
class HH(P:Program)(s:TypeId)(i:Nat)(off:outParam Nat):Prop where h:fv P s i=some (off,1,false)
class Ss(P:Program)(t:TypeId)(z:outParam Value)(sz bt:outParam Nat):Prop where h:mR P t=some (z,sz,bt)
class En(P:Program)(f:FuncId):Prop where h:lA P f
class Ox(P:Program)(M:outParam Nat):Prop where h:∀f:FuncId,Nat.beq (Nat.land (Nat.shiftRight M f) 1) 1=true->lA P f
class Ta(L:List As)(b:Nat)(cs:outParam (List Value)):Prop where h:(∃t,At L (bl b cs t))\/∃t,At L (rb b cs t)
theorem Ta.s{A:As}{b:Nat}{cs:List Value}(h:Ta L b cs):Ta (A::L) b cs:=⟨h.h.imp (λ⟨t,m⟩=>⟨t,.s m⟩) λ⟨t,m⟩=>⟨t,.s m⟩⟩
instance (priority:=low){A:As}{b:Nat}{cs:List Value}[h:Ta L b cs]:Ta (A::L) b cs:=h.s
instance {b:Nat}{cs:List Value}{t:TypeId}:Ta (bl b cs t::L) b cs:=⟨.inl ⟨t,.z⟩⟩
instance {b:Nat}{cs:List Value}{t:TypeId}:Ta (rb b cs t::L) b cs:=⟨.inr ⟨t,.z⟩⟩
instance {b:Nat}{cs:List Value}[h:Ta L b cs]:Ta (List.append [] L) b cs:=⟨h.h⟩
instance {l:List As}{A:As}{b:Nat}{cs:List Value}[h:Ta (A::List.append l L) b cs]:Ta (List.append (A::l) L) b cs:=⟨h.h⟩
instance {l:List As}{b:Nat}{cs:List Value}[h:Ta (List.append l L) b cs]:Ta (l++L) b cs:=⟨h.h⟩
theorem SH.ac{b:Nat}{cs:List Value}(h:SH B w L)(m:Ta L b cs):∀j v,cs[j]?=some v->w.cell? ⟨b,j,none⟩=some v:=λj v hj=>by
 rcases m.h with⟨t,m⟩|⟨t,m⟩
 ·exact h.c m hj
 ·exact h.B8 m hj
theorem Hs.ac{b:Nat}{cs:List Value}(h:Hs L w)(m:Ta L b cs):∀j v,cs[j]?=some v->w.cell? ⟨b,j,none⟩=some v:=λj v hj=>by
 rcases m.h with⟨t,m⟩|⟨t,m⟩
 ·exact h.c m hj
 ·exact h.B8 m hj
inductive To:List As->List As->Prop
 |n {l:List As}:To l l
 |c {a:As} {l l' m:List As}:tY l a l'->To l' m->To l (a::m)
 |d {a:As} {l m:List As}:To l m->To (a::l) m
theorem SH.M1{l m:List As}(t:To l m):∀p:List As,SH B w (p++l)->SH B w (p++m):=by
 induction t with
 |n=>exact λp h=>h
 |@c a l l' m r _ ih=>
  intro p h
  have h1:=h.f1 (r.pre p)
  have h2:=h1.back (tY.n8 a l' p)
  have h3:=ih (p++[a]) (by simpa using h2)
  simpa using h3
 |@d a l m _ ih=>exact λp h=>ih p (h.f1 (tY.n8 a l p)).drop
theorem SH.to(h:SH B w L)(t:To L L':=by repeat first
  |exact To.n
  |(apply To.c;· repeat first|exact tY.z|apply tY.s)
  |apply To.d):SH B w L':=SH.M1 t [] h
def A0:BinOp->Bool
 |.add=>false
 |.sub=>false
 |.mul=>false
 |_=>true
inductive Fl(pl:List (Nat×Nat)):List Value->List (Nat×Value)->List Value->Prop
 |n {cs:List Value}:Fl pl cs [] cs
 |c {cs cs' cs2 vs:List Value} {r:List (Nat×Value)} {i o sz:Nat} {v:Value}:pl[i]?=some (o,sz)->v.cells=vs.toArray->sz=vs.length->Ld o cs vs cs'->Fl pl cs' r cs2->Fl pl cs ((i,v)::r) cs2
theorem Yy:∀(vs:List Value) (k o:Nat) (cs:List Value),o+k+vs.length<=cs.length->(vs.zipIdx k).foldl (λ(cs:Array Value) (p:Value×Nat)=>cs.setIfInBounds (o+p.2) p.1) cs.toArray=(cs.take (o+k)++vs++cs.drop (o+k+vs.length)).toArray
 |[],k,o,cs,h=>by simp
 |v::vs,k,o,cs,h=>by
  simp only[QR]at h
  rw[List.zipIdx_cons,List.foldl_cons,List.setIfInBounds_toArray,Yy vs (k+1) o _ (by rw[uZ];omega)]
  congr 1
  apply List.ext_getElem?
  intro i
  simp only[List.getElem?_append,cO,jI,uZ,Yv,KQ,List.getElem?_set,QR]
  repeat' split
  all_goals first
   |rfl
   |omega
   |(congr 1;omega)
   |(rw[show i-min (o+k) cs.length=(i-min (o+(k+1)) cs.length)+1 by omega];simp)
   |(rw[show i-min (o+k) cs.length=0 by omega];simp)
   |skip
theorem Fl.fill{pl:List (Nat×Nat)}{zs cs:List Value}{ivs:List (Nat×Value)}(h:Fl pl zs ivs cs):Instr.fill (λi=>pl[i]?) zs.toArray ivs=some cs.toArray:=by
 induction h with
 |n=>rfl
 |@c cs cs' cs2 vs r i o sz v h1 h2 h3 h4 _ ih=>
  obtain⟨e1,e2⟩:=h4.eq
  unfold Instr.fill
  dsimp only
  rw[h1]
  dsimp only
  rw[if_neg (by rw[h2];simp;omega),<- ih,h2]
  congr 1
  have:=Yy vs 0 o cs (by omega)
  rw[Nat.add_zero,<- e1]at this
  rw[<- this,<- Array.foldl_toList]
  simp
theorem D6{op:BinOp}{xt yt:TypeId}{x y:Operand}{k:IntKind}{a b:Int}{v:Value}(ho:A0 op=true)(hx:ev n e x=some (.int k a))(hy:ev n e y=some (.int k b))(hr:LH op k a b=some v):Y P n e ⟨d,.binOp op xt x y yt,ty,ps,af,g⟩ w v w:=bi hx hy hr
theorem N2{t:TypeId}{x:Operand}{b j:Nat}{cs:List Value}{v:Value}[One P t](h:SH B w L)(hx:ev n e x=some (.pointer (some ⟨b,j,none⟩)))[m:Ta L b cs](hj:cs[j]?=some v):Y P n e ⟨d,.load t x,ty,ps,af,g⟩ w v w:=ld One.h hx (h.ac m j v hj)
theorem K2{t:TypeId}{x:Operand}{b j:Nat}{cs:List Value}{v:Value}[One P t](h:Hs L w)(hx:ev n e x=some (.pointer (some ⟨b,j,none⟩)))[m:Ta L b cs](hj:cs[j]?=some v):Y P n e ⟨d,.load t x,ty,ps,af,g⟩ w v w:=ld One.h hx (h.ac m j v hj)
theorem J5{t:TypeId}{x:Operand}{b:Nat}{cs:List Value}(h:SH B w L)(hx:ev n e x=some (.pointer (some ⟨b,0,none⟩)))[m:Ta L b cs]{k:Nat}[hT:Row P t k](hk:k=cs.length):Y P n e ⟨d,.load t x,ty,ps,af,g⟩ w (.agg cs.toArray) w:=gJ hx (λj v hj=>by rw[xE];exact h.ac m j v hj) (hk▸hT.h)
theorem J8{t:TypeId}{x:Operand}{b:Nat}{cs:List Value}(h:Hs L w)(hx:ev n e x=some (.pointer (some ⟨b,0,none⟩)))[m:Ta L b cs]{k:Nat}[hT:Row P t k](hk:k=cs.length):Y P n e ⟨d,.load t x,ty,ps,af,g⟩ w (.agg cs.toArray) w:=gJ hx (λj v hj=>by rw[xE];exact h.ac m j v hj) (hk▸hT.h)
theorem I3{t:TypeId}{parts:Array (Nat×Operand)}{zs:List Value}{pl:List (Nat×Nat)}{vs cs:List Value}[hb:Jn P t zs pl](hp:pU n e (parts.toList.map (·.2))=some vs)(hf:Fl pl zs ((parts.toList.map (·.1)).zip vs) cs):Y P n e ⟨d,.build t parts,ty,ps,af,g⟩ w (.agg cs.toArray) w:=bd cs hb.h hp hf.fill
theorem I0{w':World}{v:Value}{x:Operand}(h:Y P n e ⟨d,.move x,ty,ps,af,g⟩ w v w'):Y P n e ⟨d,.move x,ty,ps,af,g⟩ w v w':=h
theorem H0{w':World}{v:Value}{x:Operand}(h:Y P n e ⟨d,.assign x,ty,ps,af,g⟩ w v w'):Y P n e ⟨d,.assign x,ty,ps,af,g⟩ w v w':=h
theorem I4{w':World}{v:Value}{s:TypeId}{x:Operand}{i:Nat}(h:Y P n e ⟨d,.fieldAddr s x i,ty,ps,af,g⟩ w v w'):Y P n e ⟨d,.fieldAddr s x i,ty,ps,af,g⟩ w v w':=h
theorem D8{w':World}{v:Value}{t:TypeId}{x:Operand}[One P t](h:Y P n e ⟨d,.load t x,ty,ps,af,g⟩ w v w'):Y P n e ⟨d,.load t x,ty,ps,af,g⟩ w v w':=h
theorem E0{w':World}{v:Value}{t:TypeId}{x:Operand}{k:Nat}[Row P t k](h:Y P n e ⟨d,.load t x,ty,ps,af,g⟩ w v w'):Y P n e ⟨d,.load t x,ty,ps,af,g⟩ w v w':=h
theorem G7{w':World}{v:Value}{op:BinOp}{xt yt:TypeId}{x y:Operand}(h:Y P n e ⟨d,.binOp op xt x y yt,ty,ps,af,g⟩ w v w'):Y P n e ⟨d,.binOp op xt x y yt,ty,ps,af,g⟩ w v w':=h
theorem D5{w':World}{v:Value}{x:Operand}(h:Y P n e ⟨d,.nilCheck x,ty,ps,af,g⟩ w v w'):Y P n e ⟨d,.nilCheck x,ty,ps,af,g⟩ w v w':=h
theorem H6{w':World}{v:Value}{x:Operand}{i:Nat}(h:Y P n e ⟨d,.extract x i,ty,ps,af,g⟩ w v w'):Y P n e ⟨d,.extract x i,ty,ps,af,g⟩ w v w':=h
theorem I2{w':World}{v:Value}{xt:TypeId}{x:Operand}(h:Y P n e ⟨d,.unOp .not xt x,ty,ps,af,g⟩ w v w'):Y P n e ⟨d,.unOp .not xt x,ty,ps,af,g⟩ w v w':=h
theorem F7{w':World}{v:Value}{x:Operand}(h:Y P n e ⟨d,.call ⟨.builtin .len,#[x],ats⟩,ty,ps,af,g⟩ w v w'):Y P n e ⟨d,.call ⟨.builtin .len,#[x],ats⟩,ty,ps,af,g⟩ w v w':=h
theorem I7{w':World}{v:Value}{fn:Fn}{f c:Array Operand}(h:Y P n e ⟨d,.makeFunc fn f c,ty,ps,af,g⟩ w v w'):Y P n e ⟨d,.makeFunc fn f c,ty,ps,af,g⟩ w v w':=h
theorem F1{w':World}{v:Value}{t:TypeId}{parts:Array (Nat×Operand)}(h:Y P n e ⟨d,.build t parts,ty,ps,af,g⟩ w v w'):Y P n e ⟨d,.build t parts,ty,ps,af,g⟩ w v w':=h
theorem F3{w':World}{v:Value}{s:TypeId}{x:Operand}{i:Nat}(h:Y P n e ⟨d,.field s x i,ty,ps,af,g⟩ w v w'):Y P n e ⟨d,.field s x i,ty,ps,af,g⟩ w v w':=h
theorem F6{w':World}{v:Value}{c a b:Operand}(h:Y P n e ⟨d,.pick c a b,ty,ps,af,g⟩ w v w'):Y P n e ⟨d,.pick c a b,ty,ps,af,g⟩ w v w':=h
theorem F0{w':World}{v:Value}{t:TypeId}{x i:Operand}(h:Y P n e ⟨d,.indexAddr t x i,ty,ps,af,g⟩ w v w'):Y P n e ⟨d,.indexAddr t x i,ty,ps,af,g⟩ w v w':=h
theorem ba{xt yt:TypeId}{x y:Operand}{a b:Int}(c:Int)(hx:ev n e x=some (.int .i64 a):=by rfl)(hy:ev n e y=some (.int .i64 b):=by rfl)(h1:a+b=c:=by first|omega|(dsimp only;omega))(h2:-9223372036854775808<=c:=by first|omega|(dsimp only;omega))(h3:c<=9223372036854775807:=by first|omega|(dsimp only;omega)):Y P n e ⟨d,.binOp .add xt x y yt,ty,ps,af,g⟩ w (.int .i64 c) w:=bw hx hy (gN (c:=c) h1 h2 h3)
theorem bs{xt yt:TypeId}{x y:Operand}{a b:Int}(c:Int)(hx:ev n e x=some (.int .i64 a):=by rfl)(hy:ev n e y=some (.int .i64 b):=by rfl)(h1:a-b=c:=by first|omega|(dsimp only;omega))(h2:-9223372036854775808<=c:=by first|omega|(dsimp only;omega))(h3:c<=9223372036854775807:=by first|omega|(dsimp only;omega)):Y P n e ⟨d,.binOp .sub xt x y yt,ty,ps,af,g⟩ w (.int .i64 c) w:=bw hx hy (zW (c:=c) h1 h2 h3)
theorem G9{xt yt:TypeId}{x y:Operand}{a:Nat}(hx:ev n e x=some (.int .i64 (a:Nat)))(hy:ev n e y=some (.int .i64 1))(h:a<9223372036854775807):Y P n e ⟨d,.binOp .add xt x y yt,ty,ps,af,g⟩ w (.int .i64 ((a+1:Nat):Int)) w:=bw hx hy (gN (c:=((a+1:Nat):Int)) (by omega) (by omega) (by omega))
theorem J6{j t:Nat}{b:Bool}(hj:(ops[j]?).bind (·.dst)=some t)(ht:ev n e (.tmp t)=some (.bool b))(hb:b=true)(k:X P n ops (⟨d,op,ty,ps,af,none⟩::l) K e w):X P n ops (⟨d,op,ty,ps,af,some (j,true)⟩::l) K e w:=gT hj ht hb k
theorem D0{j t:Nat}{b:Bool}{f:Bool}(hj:(ops[j]?).bind (·.dst)=some t)(ht:ev n e (.tmp t)=some (.bool b))(hb:b=true)(k:XS P n ops S ((⟨d,op,ty,ps,af,none⟩,f)::ls) K e w):XS P n ops S ((⟨d,op,ty,ps,af,some (j,true)⟩,f)::ls) K e w:=oX hj ht hb k
theorem N5{j t:Nat}{b:Bool}(hj:(ops[j]?).bind (·.dst)=some t)(ht:ev n e (.tmp t)=some (.bool b))(hb:b=false)(k:X P n ops (⟨d,op,ty,ps,af,none⟩::l) K e w):X P n ops (⟨d,op,ty,ps,af,some (j,false)⟩::l) K e w:=gT hj ht hb k
theorem B2{j t:Nat}{b:Bool}{f:Bool}(hj:(ops[j]?).bind (·.dst)=some t)(ht:ev n e (.tmp t)=some (.bool b))(hb:b=false)(k:XS P n ops S ((⟨d,op,ty,ps,af,none⟩,f)::ls) K e w):XS P n ops S ((⟨d,op,ty,ps,af,some (j,false)⟩,f)::ls) K e w:=oX hj ht hb k
theorem N9{j t:Nat}{b:Bool}(hj:(ops[j]?).bind (·.dst)=some t)(ht:ev n e (.tmp t)=some (.bool b))(hb:b=false)(k:X P n ops l K (Tm.put e d undef) w):X P n ops (⟨d,op,ty,ps,af,some (j,true)⟩::l) K e w:=gF hj ht hb k
theorem z8{j t:Nat}{b:Bool}{f:Bool}(hj:(ops[j]?).bind (·.dst)=some t)(ht:ev n e (.tmp t)=some (.bool b))(hb:b=false)(k:XS P n ops S ls K (Tm.put e d undef) w):XS P n ops S ((⟨d,op,ty,ps,af,some (j,true)⟩,f)::ls) K e w:=Ez hj ht hb k
theorem K0{j t:Nat}{b:Bool}(hj:(ops[j]?).bind (·.dst)=some t)(ht:ev n e (.tmp t)=some (.bool b))(hb:b=true)(k:X P n ops l K (Tm.put e d undef) w):X P n ops (⟨d,op,ty,ps,af,some (j,false)⟩::l) K e w:=gF hj ht hb k
theorem C8{j t:Nat}{b:Bool}{f:Bool}(hj:(ops[j]?).bind (·.dst)=some t)(ht:ev n e (.tmp t)=some (.bool b))(hb:b=true)(k:XS P n ops S ls K (Tm.put e d undef) w):XS P n ops S ((⟨d,op,ty,ps,af,some (j,false)⟩,f)::ls) K e w:=Ez hj ht hb k
theorem M6{k:Tm->World->Prop}(h:k e w):XS P n ops S [] (jU k K) e w:=xz h
theorem N1{r:List (Bool×List (Nat×Bool))}{S':World->Prop}(h:sK P n ops S r K .normal e w):XS P n ops S' [] (sK P n ops S r K) e w:=xz h
theorem M9(h:K .normal e w):sK P n ops S [] K .normal e w:=h
theorem L6{i:Nat}(h:K .normal e w):XS P n ops S [] (kP i K) e w:=xz h
class YC(vs:List Value):Prop where h:vs.all Value.oneCell'=true
theorem jO{t u:TypeId}{x y:Operand}{b o sz:Nat}{v:Value}{cs cs' vs:List Value}(h:SH B w L)(k:∀w',SH B w' L'->X P n ops l K e w')[hT:Sz P t sz](hx:ev n e x=some (.pointer (some ⟨b,o,none⟩)):=by rfl)(up:sJ L L' (bl b cs u) (bl b cs' u):=by repeat first|exact sJ.z|apply sJ.s)(hy:ev n e y=some v:=by rfl)(hv:v.cells=vs.toArray:=by rfl)(hs:sz=vs.length:=by rfl)(h1:vs.all Value.oneCell'=true:=by first|rfl|exact YC.h)(sp:Ld o cs vs cs':=by repeat first|exact .d|apply Ld.r|apply Ld.s):X P n ops (⟨none,.store t x y,ty,ps,af,none⟩::l) K e w:=sf (so h hx hy hv (hs▸hT.h) h1 sp up) λ_ w' h=>k w' h
theorem jQ{t u:TypeId}{x y:Operand}{b o sz:Nat}{v:Value}{cs cs' vs:List Value}(h:SH B w L)(k:∀w',SH B w' L'->S w'/\XS P n ops S ls K e w')[hT:Sz P t sz](hx:ev n e x=some (.pointer (some ⟨b,o,none⟩)):=by rfl)(up:sJ L L' (bl b cs u) (bl b cs' u):=by repeat first|exact sJ.z|apply sJ.s)(hy:ev n e y=some v:=by rfl)(hv:v.cells=vs.toArray:=by rfl)(hs:sz=vs.length:=by rfl)(h1:vs.all Value.oneCell'=true:=by first|rfl|exact YC.h)(sp:Ld o cs vs cs':=by repeat first|exact .d|apply Ld.r|apply Ld.s):XS P n ops S ((⟨none,.store t x y,ty,ps,af,none⟩,false)::ls) K e w:=ff (so h hx hy hv (hs▸hT.h) h1 sp up) λ_ w' h=>k w' h
theorem yC{c:Operand}{x:Code}{y:Code}(h:C P n (.cond c x y) K e w):C P n (.cond c x y) K e w:=h
theorem yO{o:Oper}(h:X P n ops (o::l) K e w):X P n ops (o::l) K e w:=h
theorem yP{p:Oper×Bool}(h:XS P n ops S (p::ls) K e w):XS P n ops S (p::ls) K e w:=h
theorem yT{t:TypeId}{x y:Operand}(h:X P n ops (⟨none,.store t x y,ty,ps,af,none⟩::l) K e w):X P n ops (⟨none,.store t x y,ty,ps,af,none⟩::l) K e w:=h
theorem yU{t:TypeId}{x y:Operand}(h:XS P n ops S ((⟨none,.store t x y,ty,ps,af,none⟩,false)::ls) K e w):XS P n ops S ((⟨none,.store t x y,ty,ps,af,none⟩,false)::ls) K e w:=h
theorem yV{x:Operand}(h:XS P n ops S ((⟨d,.assign x,ty,ps,af,none⟩,false)::ls) K e w):XS P n ops S ((⟨d,.assign x,ty,ps,af,none⟩,false)::ls) K e w:=h
theorem go{G:Prop}{G':World->Prop}(h:SH B w L)(k:∀w,SH B w L'->G' w)(r:SH B w L->(∀w,SH B w L'->G' w)->G:=by
 intro h k
 repeat first
  |(refine yO ?_;first
   |refine J6 rfl rfl (by first|assumption|rfl|exact sZ (by assumption)|exact tJ (by assumption)|exact mI (by omega)|exact Ab (by omega)|exact wZ _|exact uP _) ?_
   |refine N9 rfl rfl (by first|assumption|rfl|exact sZ (by assumption)|exact tJ (by assumption)|exact mI (by omega)|exact Ab (by omega)|exact wZ _|exact uP _) ?_
   |refine N5 rfl rfl (by first|assumption|rfl|exact sZ (by assumption)|exact tJ (by assumption)|exact mI (by omega)|exact Ab (by omega)|exact wZ _|exact uP _) ?_
   |refine K0 rfl rfl (by first|assumption|rfl|exact sZ (by assumption)|exact tJ (by assumption)|exact mI (by omega)|exact Ab (by omega)|exact wZ _|exact uP _) ?_
   |refine gU rfl rfl ?_
   |refine st (by
    first
    |(apply I4;exact fa Fo.h rfl)
    |(apply D8;first|exact N2 h rfl rfl|exact ld One.h rfl ((SH.rr h (by repeat first|exact At.z|apply At.s)).i (by first|omega|(dsimp only;omega)))|exact ld One.h rfl ((SH.ro h (by repeat first|exact At.z|apply At.s)).i (by first|omega|(dsimp only;omega))))
    |(apply I0;exact mv rfl)
    |(apply G7;first|exact D6 rfl rfl rfl rfl|exact sb rfl rfl rfl|exact G9 rfl rfl (by first|omega|(dsimp only;omega)))
    |(apply D5;exact nc rfl rfl)
    |(apply H6;exact xr rfl rfl)
    |(apply F3;exact fd HH.h rfl rfl)
    |(apply H0;exact sg rfl)
    |(apply E0;exact J5 h rfl rfl)
    |(apply F6;first|exact pT rfl (by first|assumption|rfl|exact sZ (by assumption)|exact tJ (by assumption)|exact mI (by omega)|exact Ab (by omega)|exact wZ _|exact uP _) rfl|exact pF rfl (by first|assumption|rfl|exact sZ (by assumption)|exact tJ (by assumption)|exact mI (by omega)|exact Ab (by omega)|exact wZ _|exact uP _) rfl)
    |(apply F7;first|exact ln fR.h rfl rfl|exact PA H7.h rfl rfl)
    |(apply I2;exact nt rfl)
    |(apply I7;exact mf rfl rfl)
    |(apply F1;exact I3 rfl (by repeat first|exact Fl.n|(apply Fl.c;rfl;rfl;rfl;repeat first|exact Ld.d|apply Ld.r|apply Ld.s)))
    |(apply F0;exact ix fR.h Sz.h rfl rfl (by first|omega|(dsimp only;omega)))
    ) ?_
   |(refine yT ?_;refine jO h ?_;intro w h))
  |(refine yP ?_;first
   |refine D0 rfl rfl (by first|assumption|rfl|exact sZ (by assumption)|exact tJ (by assumption)|exact mI (by omega)|exact Ab (by omega)|exact wZ _|exact uP _) ?_
   |refine z8 rfl rfl (by first|assumption|rfl|exact sZ (by assumption)|exact tJ (by assumption)|exact mI (by omega)|exact Ab (by omega)|exact wZ _|exact uP _) ?_
   |refine B2 rfl rfl (by first|assumption|rfl|exact sZ (by assumption)|exact tJ (by assumption)|exact mI (by omega)|exact Ab (by omega)|exact wZ _|exact uP _) ?_
   |refine C8 rfl rfl (by first|assumption|rfl|exact sZ (by assumption)|exact tJ (by assumption)|exact mI (by omega)|exact Ab (by omega)|exact wZ _|exact uP _) ?_
   |refine J4 rfl rfl ?_
   |refine tk (λW H=>by
    first
    |(apply I4;exact fa Fo.h rfl)
    |(apply D8;first|exact K2 H rfl rfl|exact ld One.h rfl ((Hs.rr H (by repeat first|exact At.z|apply At.s)).i (by first|omega|(dsimp only;omega)))|exact ld One.h rfl ((Hs.ro H (by repeat first|exact At.z|apply At.s)).i (by first|omega|(dsimp only;omega))))
    |(apply I0;exact mv rfl)
    |(apply G7;first|exact D6 rfl rfl rfl rfl|exact sb rfl rfl rfl|exact G9 rfl rfl (by first|omega|(dsimp only;omega)))
    |(apply D5;exact nc rfl rfl)
    |(apply H6;exact xr rfl rfl)
    |(apply F3;exact fd HH.h rfl rfl)
    |(apply H0;exact sg rfl)
    |(apply E0;exact J8 H rfl rfl)
    |(apply F6;first|exact pT rfl (by first|assumption|rfl|exact sZ (by assumption)|exact tJ (by assumption)|exact mI (by omega)|exact Ab (by omega)|exact wZ _|exact uP _) rfl|exact pF rfl (by first|assumption|rfl|exact sZ (by assumption)|exact tJ (by assumption)|exact mI (by omega)|exact Ab (by omega)|exact wZ _|exact uP _) rfl)
    |(apply F7;first|exact ln fR.h rfl rfl|exact PA H7.h rfl rfl)
    |(apply I2;exact nt rfl)
    |(apply I7;exact mf rfl rfl)
    |(apply F1;exact I3 rfl (by repeat first|exact Fl.n|(apply Fl.c;rfl;rfl;rfl;repeat first|exact Ld.d|apply Ld.r|apply Ld.s)))
    |(apply F0;exact ix fR.h Sz.h rfl rfl (by first|omega|(dsimp only;omega)))
    ) ?_
   |(refine yV ?_;refine ef (sg rfl) (by repeat first|exact hN|exact trivial|refine hC (SH.at_ h (by repeat first|exact At.z|apply At.s)) ?_|refine hC (Go.E.SH.eJ h (by repeat first|exact At.z|apply At.s) λ_=>rfl) ?_|refine hC (SH.pS h (by repeat first|exact At.z|apply At.s) rfl) ?_) ?_)
   |(refine yU ?_;refine jQ h ?_;intro w h;refine⟨(by repeat first|exact hN|exact trivial|refine hC (SH.at_ h (by repeat first|exact At.z|apply At.s)) ?_|refine hC (Go.E.SH.eJ h (by repeat first|exact At.z|apply At.s) λ_=>rfl) ?_|refine hC (SH.pS h (by repeat first|exact At.z|apply At.s) rfl) ?_),?_⟩))
  |refine nx ?_
  |refine sq ?_
  |refine rg ?_
  |refine xe ?_
  |(refine yC ?_;first
   |refine ct rfl (by first|assumption|rfl|exact sZ (by assumption)|exact tJ (by assumption)|exact mI (by omega)|exact Ab (by omega)|exact wZ _|exact uP _) ?_
   |refine cf rfl (by first|assumption|rfl|exact sZ (by assumption)|exact tJ (by assumption)|exact mI (by omega)|exact Ab (by omega)|exact wZ _|exact uP _) ?_)
  |refine tr ?_
  |refine rt ?_
  |refine sk ?_
  |refine tx ?_
  |refine bt ?_
  |refine bn ?_
  |refine be ?_
  |refine bk ?_
  |refine xt ?_
  |refine bo rfl ?_
  |refine M6 ?_
  |refine L6 ?_
  |refine UW ?_
  |refine Zp ?_
  |refine VP ?_
  |refine K5 ?_
  |refine M9 ?_
  |refine N1 ?_
  |refine WZ rfl ?_
 first|exact k _ h|apply k _ h):G:=r h k
theorem bZ{fn:Func}{c:Code}{args:List Value}{R:Ending->World->Prop}{G':World->Prop}(hf:P.funcs[f]?=some fn)(hn:fn.ntmps=n)(h:SH B w L)(k:∀w,SH B w L'->G' w)(hb:fn.body=some c:=by rfl)(ha:Nat.ble args.length n=true:=by rfl)(r:SH B w L->(∀w,SH B w L'->G' w)->C P n c (fin P fn n R) (Gw 0 args) w:=by intro h k;exact go h k):Calls P f args.toArray w R:=Ea hf hb hn ha (r h k)
theorem jA{t:TypeId}{cs:List Value}{L1:Nat->List As}{G':Nat->World->Prop}(h:SH B w L)(k:∀b w',SH B w' (L1 b)->G' b w')[hz:Zc P t cs](r:∀b w',SH B w' (bl b cs t::L)->(∀w',SH B w' (L1 b)->G' b w')->X P n ops l K (Tm.put e d (.pointer (some ⟨b,0,none⟩))) w':=by intro b w h k;exact go h k):X P n ops (⟨d,.alloc t,ty,ps,af,none⟩::l) K e w:=sf (al h hz.h) λv w' ⟨b,e,h⟩=>e▸r b w' h (k b)
theorem jX{t:TypeId}{x:Operand}{v:Value}{cs:List Value}{L1:Nat->List As}{G':Nat->World->Prop}(h:SH B w L)(k:∀b w',SH B w' (L1 b)->G' b w')(hx:ev n e x=some v:=by rfl)(hc:v.cells=cs.toArray:=by rfl)(r:∀b w',SH B w' (bl b cs t::L)->(∀w',SH B w' (L1 b)->G' b w')->X P n ops l K (Tm.put e d (.pointer (some ⟨b,0,none⟩))) w':=by intro b w h k;exact go h k):X P n ops (⟨d,.box t x,ty,ps,af,none⟩::l) K e w:=sf (bx h hx hc) λv w' ⟨b,e,h⟩=>e▸r b w' h (k b)
theorem jB{t:TypeId}{cs:List Value}{L1:Nat->List As}{G':Nat->World->Prop}(h:SH B w L)(k:∀b w',SH B w' (L1 b)->G' b w')[hz:Zc P t cs](r:∀b w',SH B w' (bl b cs t::L)->(∀w',SH B w' (L1 b)->G' b w')->S w'/\XS P n ops S ls K (Tm.put e d (.pointer (some ⟨b,0,none⟩))) w':=by intro b w h k;refine⟨(by repeat first|exact hN|exact trivial|refine hC (SH.at_ h (by repeat first|exact At.z|apply At.s)) ?_|refine hC (Go.E.SH.eJ h (by repeat first|exact At.z|apply At.s) λ_=>rfl) ?_|refine hC (SH.pS h (by repeat first|exact At.z|apply At.s) rfl) ?_),?_⟩;exact go h k):XS P n ops S ((⟨d,.alloc t,ty,ps,af,none⟩,false)::ls) K e w:=ff (al h hz.h) λv w' ⟨b,e,h⟩=>e▸r b w' h (k b)
theorem jY{t:TypeId}{x:Operand}{v:Value}{cs:List Value}{L1:Nat->List As}{G':Nat->World->Prop}(h:SH B w L)(k:∀b w',SH B w' (L1 b)->G' b w')(hx:ev n e x=some v:=by rfl)(hc:v.cells=cs.toArray:=by rfl)(r:∀b w',SH B w' (bl b cs t::L)->(∀w',SH B w' (L1 b)->G' b w')->S w'/\XS P n ops S ls K (Tm.put e d (.pointer (some ⟨b,0,none⟩))) w':=by intro b w h k;refine⟨(by repeat first|exact hN|exact trivial|refine hC (SH.at_ h (by repeat first|exact At.z|apply At.s)) ?_|refine hC (Go.E.SH.eJ h (by repeat first|exact At.z|apply At.s) λ_=>rfl) ?_|refine hC (SH.pS h (by repeat first|exact At.z|apply At.s) rfl) ?_),?_⟩;exact go h k):XS P n ops S ((⟨d,.box t x,ty,ps,af,none⟩,false)::ls) K e w:=ff (bx h hx hc) λv w' ⟨b,e,h⟩=>e▸r b w' h (k b)
theorem gz{G':World->Prop}(h:SH B w L)(k:∀w,SH B w L'->G' w)(s:SH B w L->S w:=by intro h;exact(by repeat first|exact hN|exact trivial|refine hC (SH.at_ h (by repeat first|exact At.z|apply At.s)) ?_|refine hC (Go.E.SH.eJ h (by repeat first|exact At.z|apply At.s) λ_=>rfl) ?_|refine hC (SH.pS h (by repeat first|exact At.z|apply At.s) rfl) ?_))(r:SH B w L->(∀w,SH B w L'->G' w)->XS P n ops S ls K e w:=by intro h k;exact go h k):S w/\XS P n ops S ls K e w:=⟨s h,r h k⟩
theorem qc{c:Operand}{x y:Code}{b:Bool}{L1 L2:List As}{G1 G2:World->Prop}(h:SH B w L)(k1:b=true->∀w,SH B w L1->G1 w)(k2:b=false->∀w,SH B w L2->G2 w)(hc:ev n e c=some (.bool b):=by rfl)(r1:SH B w L->b=true->(∀w,SH B w L1->G1 w)->C P n x K e w:=by intro h hb k;exact go h k)(r2:SH B w L->b=false->(∀w,SH B w L2->G2 w)->C P n y K e w:=by intro h hb k;exact go h k):C P n (.cond c x y) K e w:=cd hc (λhb=>r1 h hb (k1 hb)) λhb=>r2 h hb (k2 hb)
theorem qg{j t:Nat}{b c:Bool}{L1 L2:List As}{G1 G2:World->Prop}(h:SH B w L)(k1:b=true->∀w,SH B w L1->G1 w)(k2:b=false->∀w,SH B w L2->G2 w)(hj:(ops[j]?).bind (·.dst)=some t:=by rfl)(ht:ev n e (.tmp t)=some (.bool b):=by rfl)(r1:SH B w L->b=true->(∀w,SH B w L1->G1 w)->X P n ops (⟨d,op,ty,ps,af,some (j,c)⟩::l) K e w:=by intro h hb k;exact go h k)(r2:SH B w L->b=false->(∀w,SH B w L2->G2 w)->X P n ops (⟨d,op,ty,ps,af,some (j,c)⟩::l) K e w:=by intro h hb k;exact go h k):X P n ops (⟨d,op,ty,ps,af,some (j,c)⟩::l) K e w:=by
 cases hb:b with
 |true=>exact r1 h hb (k1 hb)
 |false=>exact r2 h hb (k2 hb)
def Mb(n:Nat)(e:Tm)(as9:Array Operand):Array Value:=((pU n e as9.toList).getD []).toArray
theorem I1(en:lA P f)(ha:(pU n e as9.toList).isSome=true):Ca P n e ⟨d,.call ⟨.value (.func f),as9,ats⟩,ty,ps,af,g⟩ w f (Mb n e as9):=by
 obtain⟨vs,hv⟩:=Option.isSome_iff_exists.1 ha
 unfold Mb
 rw[hv]
 exact ca en hv
theorem jL(k:Calls P f (Mb n e as9) w λx w'=>∃v,x=.returned v/\X P n ops l K (Tm.put e d v) w')(hn:lA P f:=by first|exact En.h|exact Ox.h _ rfl)(ha:(pU n e as9.toList).isSome=true:=by rfl):X P n ops (⟨d,.call ⟨.value (.func f),as9,ats⟩,ty,ps,af,none⟩::l) K e w:=cl (I1 hn ha) k
theorem jS(k:Calls P f (Mb n e as9) w λx w'=>∃v,x=.returned v/\S w'/\XS P n ops S ls K (Tm.put e d v) w')(hn:lA P f:=by first|exact En.h|exact Ox.h _ rfl)(ha:(pU n e as9.toList).isSome=true:=by rfl):XS P n ops S ((⟨d,.call ⟨.value (.func f),as9,ats⟩,ty,ps,af,none⟩,false)::ls) K e w:=cs (I1 hn ha) k
theorem bA{v:Value}{L2 L3:List As}{G':World->Prop}(c:Calls P f (Mb n e as9) w λx w'=>x=.returned v/\SH B w' L2)(k:∀w',SH B w' L3->G' w')(hn:lA P f:=by first|exact En.h|exact Ox.h _ rfl)(ha:(pU n e as9.toList).isSome=true:=by rfl)(r:∀w',SH B w' L2->(∀w',SH B w' L3->G' w')->X P n ops l K (Tm.put e d v) w':=by intro w h k;exact go h k):X P n ops (⟨d,.call ⟨.value (.func f),as9,ats⟩,ty,ps,af,none⟩::l) K e w:=jL (hn:=hn) (ha:=ha) (c.mono λx w' ⟨e,h⟩=>⟨_,e,r w' h (λw h=>k w h)⟩)
theorem cG{α0:Type}{v:α0->Value}{L2 L3:α0->List As}{G':α0->World->Prop}(c:Calls P f (Mb n e as9) w λx w'=>∃x0:α0,x=.returned (v x0)/\SH B w' (L2 x0))(k:∀x0,∀w',SH B w' (L3 x0)->G' x0 w')(hn:lA P f:=by first|exact En.h|exact Ox.h _ rfl)(ha:(pU n e as9.toList).isSome=true:=by rfl)(r:∀x0,∀w',SH B w' (L2 x0)->(∀w',SH B w' (L3 x0)->G' x0 w')->X P n ops l K (Tm.put e d (v x0)) w':=by intro x0 w h k;exact go h k):X P n ops (⟨d,.call ⟨.value (.func f),as9,ats⟩,ty,ps,af,none⟩::l) K e w:=jL (hn:=hn) (ha:=ha) (c.mono λx w' ⟨x0,e,h⟩=>⟨_,e,r x0 w' h (λw h=>k x0 w h)⟩)
theorem Sd{α0:Type}{α1:Type}{v:α0->α1->Value}{L2 L3:α0->α1->List As}{G':α0->α1->World->Prop}(c:Calls P f (Mb n e as9) w λx w'=>∃x0:α0,∃x1:α1,x=.returned (v x0 x1)/\SH B w' (L2 x0 x1))(k:∀x0 x1,∀w',SH B w' (L3 x0 x1)->G' x0 x1 w')(hn:lA P f:=by first|exact En.h|exact Ox.h _ rfl)(ha:(pU n e as9.toList).isSome=true:=by rfl)(r:∀x0 x1,∀w',SH B w' (L2 x0 x1)->(∀w',SH B w' (L3 x0 x1)->G' x0 x1 w')->X P n ops l K (Tm.put e d (v x0 x1)) w':=by intro x0 x1 w h k;exact go h k):X P n ops (⟨d,.call ⟨.value (.func f),as9,ats⟩,ty,ps,af,none⟩::l) K e w:=jL (hn:=hn) (ha:=ha) (c.mono λx w' ⟨x0,x1,e,h⟩=>⟨_,e,r x0 x1 w' h (λw h=>k x0 x1 w h)⟩)
theorem Pv{α0:Type}{v:α0->Value}{L2 L3:α0->List As}{G':α0->World->Prop}{q:α0->Prop}(c:Calls P f (Mb n e as9) w λx w'=>∃x0:α0,q x0/\x=.returned (v x0)/\SH B w' (L2 x0))(k:∀x0,q x0->∀w',SH B w' (L3 x0)->G' x0 w')(hn:lA P f:=by first|exact En.h|exact Ox.h _ rfl)(ha:(pU n e as9.toList).isSome=true:=by rfl)(r:∀x0,q x0->∀w',SH B w' (L2 x0)->(∀w',SH B w' (L3 x0)->G' x0 w')->X P n ops l K (Tm.put e d (v x0)) w':=by intro x0 hq w h k;exact go h k):X P n ops (⟨d,.call ⟨.value (.func f),as9,ats⟩,ty,ps,af,none⟩::l) K e w:=jL (hn:=hn) (ha:=ha) (c.mono λx w' ⟨x0,hq,e,h⟩=>⟨_,e,r x0 hq w' h (λw h=>k x0 hq w h)⟩)
theorem fQ{α0:Type}{α1:Type}{α2:Type}{v:α0->α1->α2->Value}{L2 L3:α0->α1->α2->List As}{G':α0->α1->α2->World->Prop}{q:α0->α1->α2->Prop}(c:Calls P f (Mb n e as9) w λx w'=>∃x0:α0,∃x1:α1,∃x2:α2,q x0 x1 x2/\x=.returned (v x0 x1 x2)/\SH B w' (L2 x0 x1 x2))(k:∀x0 x1 x2,q x0 x1 x2->∀w',SH B w' (L3 x0 x1 x2)->G' x0 x1 x2 w')(hn:lA P f:=by first|exact En.h|exact Ox.h _ rfl)(ha:(pU n e as9.toList).isSome=true:=by rfl)(r:∀x0 x1 x2,q x0 x1 x2->∀w',SH B w' (L2 x0 x1 x2)->(∀w',SH B w' (L3 x0 x1 x2)->G' x0 x1 x2 w')->X P n ops l K (Tm.put e d (v x0 x1 x2)) w':=by intro x0 x1 x2 hq w h k;exact go h k):X P n ops (⟨d,.call ⟨.value (.func f),as9,ats⟩,ty,ps,af,none⟩::l) K e w:=jL (hn:=hn) (ha:=ha) (c.mono λx w' ⟨x0,x1,x2,hq,e,h⟩=>⟨_,e,r x0 x1 x2 hq w' h (λw h=>k x0 x1 x2 hq w h)⟩)
theorem dE{α0:Type}{α1:Type}{v:α0->α1->Value}{L2 L3:α0->α1->List As}{G':α0->α1->World->Prop}{q:α0->α1->Prop}{p:α0->α1->Prop}(c:Calls P f (Mb n e as9) w λx w'=>∃x0:α0,∃x1:α1,q x0 x1/\x=.returned (v x0 x1)/\SH B w' (L2 x0 x1)/\p x0 x1)(k:∀x0 x1,q x0 x1->∀w',SH B w' (L3 x0 x1)->p x0 x1->G' x0 x1 w')(hn:lA P f:=by first|exact En.h|exact Ox.h _ rfl)(ha:(pU n e as9.toList).isSome=true:=by rfl)(r:∀x0 x1,q x0 x1->∀w',SH B w' (L2 x0 x1)->p x0 x1->(∀w',SH B w' (L3 x0 x1)->G' x0 x1 w')->X P n ops l K (Tm.put e d (v x0 x1)) w':=by intro x0 x1 hq w h hp k;exact go h k):X P n ops (⟨d,.call ⟨.value (.func f),as9,ats⟩,ty,ps,af,none⟩::l) K e w:=jL (hn:=hn) (ha:=ha) (c.mono λx w' ⟨x0,x1,hq,e,h,hp⟩=>⟨_,e,r x0 x1 hq w' h hp (λw h=>k x0 x1 hq w h hp)⟩)
theorem SS{v:Value}{L2 L3:List As}{G':World->Prop}{p:Prop}(c:Calls P f (Mb n e as9) w λx w'=>x=.returned v/\SH B w' L2/\p)(k:∀w',SH B w' L3->p->G' w')(hn:lA P f:=by first|exact En.h|exact Ox.h _ rfl)(ha:(pU n e as9.toList).isSome=true:=by rfl)(r:∀w',SH B w' L2->p->(∀w',SH B w' L3->G' w')->X P n ops l K (Tm.put e d v) w':=by intro w h hp k;exact go h k):X P n ops (⟨d,.call ⟨.value (.func f),as9,ats⟩,ty,ps,af,none⟩::l) K e w:=jL (hn:=hn) (ha:=ha) (c.mono λx w' ⟨e,h,hp⟩=>⟨_,e,r w' h hp (λw h=>k w h hp)⟩)
theorem gO{v:Value}{L2 L3:List As}{G':World->Prop}(c:Calls P f (Mb n e as9) w λx w'=>x=.returned v/\SH B w' L2)(k:∀w',SH B w' L3->G' w')(hn:lA P f:=by first|exact En.h|exact Ox.h _ rfl)(ha:(pU n e as9.toList).isSome=true:=by rfl)(r:∀w',SH B w' L2->(∀w',SH B w' L3->G' w')->S w'/\XS P n ops S ls K (Tm.put e d v) w':=by intro w h k;refine⟨(by repeat first|exact hN|exact trivial|refine hC (SH.at_ h (by repeat first|exact At.z|apply At.s)) ?_|refine hC (Go.E.SH.eJ h (by repeat first|exact At.z|apply At.s) λ_=>rfl) ?_|refine hC (SH.pS h (by repeat first|exact At.z|apply At.s) rfl) ?_),?_⟩;exact go h k):XS P n ops S ((⟨d,.call ⟨.value (.func f),as9,ats⟩,ty,ps,af,none⟩,false)::ls) K e w:=jS (hn:=hn) (ha:=ha) (c.mono λx w' ⟨e,h⟩=>⟨_,e,r w' h (λw h=>k w h)⟩)
theorem lH{α0:Type}{v:α0->Value}{L2 L3:α0->List As}{G':α0->World->Prop}(c:Calls P f (Mb n e as9) w λx w'=>∃x0:α0,x=.returned (v x0)/\SH B w' (L2 x0))(k:∀x0,∀w',SH B w' (L3 x0)->G' x0 w')(hn:lA P f:=by first|exact En.h|exact Ox.h _ rfl)(ha:(pU n e as9.toList).isSome=true:=by rfl)(r:∀x0,∀w',SH B w' (L2 x0)->(∀w',SH B w' (L3 x0)->G' x0 w')->S w'/\XS P n ops S ls K (Tm.put e d (v x0)) w':=by intro x0 w h k;refine⟨(by repeat first|exact hN|exact trivial|refine hC (SH.at_ h (by repeat first|exact At.z|apply At.s)) ?_|refine hC (Go.E.SH.eJ h (by repeat first|exact At.z|apply At.s) λ_=>rfl) ?_|refine hC (SH.pS h (by repeat first|exact At.z|apply At.s) rfl) ?_),?_⟩;exact go h k):XS P n ops S ((⟨d,.call ⟨.value (.func f),as9,ats⟩,ty,ps,af,none⟩,false)::ls) K e w:=jS (hn:=hn) (ha:=ha) (c.mono λx w' ⟨x0,e,h⟩=>⟨_,e,r x0 w' h (λw h=>k x0 w h)⟩)
theorem AN{α0:Type}{α1:Type}{v:α0->α1->Value}{L2 L3:α0->α1->List As}{G':α0->α1->World->Prop}(c:Calls P f (Mb n e as9) w λx w'=>∃x0:α0,∃x1:α1,x=.returned (v x0 x1)/\SH B w' (L2 x0 x1))(k:∀x0 x1,∀w',SH B w' (L3 x0 x1)->G' x0 x1 w')(hn:lA P f:=by first|exact En.h|exact Ox.h _ rfl)(ha:(pU n e as9.toList).isSome=true:=by rfl)(r:∀x0 x1,∀w',SH B w' (L2 x0 x1)->(∀w',SH B w' (L3 x0 x1)->G' x0 x1 w')->S w'/\XS P n ops S ls K (Tm.put e d (v x0 x1)) w':=by intro x0 x1 w h k;refine⟨(by repeat first|exact hN|exact trivial|refine hC (SH.at_ h (by repeat first|exact At.z|apply At.s)) ?_|refine hC (Go.E.SH.eJ h (by repeat first|exact At.z|apply At.s) λ_=>rfl) ?_|refine hC (SH.pS h (by repeat first|exact At.z|apply At.s) rfl) ?_),?_⟩;exact go h k):XS P n ops S ((⟨d,.call ⟨.value (.func f),as9,ats⟩,ty,ps,af,none⟩,false)::ls) K e w:=jS (hn:=hn) (ha:=ha) (c.mono λx w' ⟨x0,x1,e,h⟩=>⟨_,e,r x0 x1 w' h (λw h=>k x0 x1 w h)⟩)
theorem B5{α0:Type}{v:α0->Value}{L2 L3:α0->List As}{G':α0->World->Prop}{q:α0->Prop}(c:Calls P f (Mb n e as9) w λx w'=>∃x0:α0,q x0/\x=.returned (v x0)/\SH B w' (L2 x0))(k:∀x0,q x0->∀w',SH B w' (L3 x0)->G' x0 w')(hn:lA P f:=by first|exact En.h|exact Ox.h _ rfl)(ha:(pU n e as9.toList).isSome=true:=by rfl)(r:∀x0,q x0->∀w',SH B w' (L2 x0)->(∀w',SH B w' (L3 x0)->G' x0 w')->S w'/\XS P n ops S ls K (Tm.put e d (v x0)) w':=by intro x0 hq w h k;refine⟨(by repeat first|exact hN|exact trivial|refine hC (SH.at_ h (by repeat first|exact At.z|apply At.s)) ?_|refine hC (Go.E.SH.eJ h (by repeat first|exact At.z|apply At.s) λ_=>rfl) ?_|refine hC (SH.pS h (by repeat first|exact At.z|apply At.s) rfl) ?_),?_⟩;exact go h k):XS P n ops S ((⟨d,.call ⟨.value (.func f),as9,ats⟩,ty,ps,af,none⟩,false)::ls) K e w:=jS (hn:=hn) (ha:=ha) (c.mono λx w' ⟨x0,hq,e,h⟩=>⟨_,e,r x0 hq w' h (λw h=>k x0 hq w h)⟩)
theorem Zs{α0:Type}{α1:Type}{α2:Type}{v:α0->α1->α2->Value}{L2 L3:α0->α1->α2->List As}{G':α0->α1->α2->World->Prop}{q:α0->α1->α2->Prop}(c:Calls P f (Mb n e as9) w λx w'=>∃x0:α0,∃x1:α1,∃x2:α2,q x0 x1 x2/\x=.returned (v x0 x1 x2)/\SH B w' (L2 x0 x1 x2))(k:∀x0 x1 x2,q x0 x1 x2->∀w',SH B w' (L3 x0 x1 x2)->G' x0 x1 x2 w')(hn:lA P f:=by first|exact En.h|exact Ox.h _ rfl)(ha:(pU n e as9.toList).isSome=true:=by rfl)(r:∀x0 x1 x2,q x0 x1 x2->∀w',SH B w' (L2 x0 x1 x2)->(∀w',SH B w' (L3 x0 x1 x2)->G' x0 x1 x2 w')->S w'/\XS P n ops S ls K (Tm.put e d (v x0 x1 x2)) w':=by intro x0 x1 x2 hq w h k;refine⟨(by repeat first|exact hN|exact trivial|refine hC (SH.at_ h (by repeat first|exact At.z|apply At.s)) ?_|refine hC (Go.E.SH.eJ h (by repeat first|exact At.z|apply At.s) λ_=>rfl) ?_|refine hC (SH.pS h (by repeat first|exact At.z|apply At.s) rfl) ?_),?_⟩;exact go h k):XS P n ops S ((⟨d,.call ⟨.value (.func f),as9,ats⟩,ty,ps,af,none⟩,false)::ls) K e w:=jS (hn:=hn) (ha:=ha) (c.mono λx w' ⟨x0,x1,x2,hq,e,h⟩=>⟨_,e,r x0 x1 x2 hq w' h (λw h=>k x0 x1 x2 hq w h)⟩)
theorem mF{α0:Type}{α1:Type}{v:α0->α1->Value}{L2 L3:α0->α1->List As}{G':α0->α1->World->Prop}{q:α0->α1->Prop}{p:α0->α1->Prop}(c:Calls P f (Mb n e as9) w λx w'=>∃x0:α0,∃x1:α1,q x0 x1/\x=.returned (v x0 x1)/\SH B w' (L2 x0 x1)/\p x0 x1)(k:∀x0 x1,q x0 x1->∀w',SH B w' (L3 x0 x1)->p x0 x1->G' x0 x1 w')(hn:lA P f:=by first|exact En.h|exact Ox.h _ rfl)(ha:(pU n e as9.toList).isSome=true:=by rfl)(r:∀x0 x1,q x0 x1->∀w',SH B w' (L2 x0 x1)->p x0 x1->(∀w',SH B w' (L3 x0 x1)->G' x0 x1 w')->S w'/\XS P n ops S ls K (Tm.put e d (v x0 x1)) w':=by intro x0 x1 hq w h hp k;refine⟨(by repeat first|exact hN|exact trivial|refine hC (SH.at_ h (by repeat first|exact At.z|apply At.s)) ?_|refine hC (Go.E.SH.eJ h (by repeat first|exact At.z|apply At.s) λ_=>rfl) ?_|refine hC (SH.pS h (by repeat first|exact At.z|apply At.s) rfl) ?_),?_⟩;exact go h k):XS P n ops S ((⟨d,.call ⟨.value (.func f),as9,ats⟩,ty,ps,af,none⟩,false)::ls) K e w:=jS (hn:=hn) (ha:=ha) (c.mono λx w' ⟨x0,x1,hq,e,h,hp⟩=>⟨_,e,r x0 x1 hq w' h hp (λw h=>k x0 x1 hq w h hp)⟩)
theorem aAi{α0:Type}{v:α0->Value}{L2 L3:α0->List As}{G':α0->World->Prop}{p:α0->Prop}(c:Calls P f (Mb n e as9) w λx w'=>∃x0:α0,x=.returned (v x0)/\SH B w' (L2 x0)/\p x0)(k:∀x0,∀w',SH B w' (L3 x0)->p x0->G' x0 w')(hn:lA P f:=by first|exact En.h|exact Ox.h _ rfl)(ha:(pU n e as9.toList).isSome=true:=by rfl)(r:∀x0,∀w',SH B w' (L2 x0)->p x0->(∀w',SH B w' (L3 x0)->G' x0 w')->S w'/\XS P n ops S ls K (Tm.put e d (v x0)) w':=by intro x0 w h hp k;refine⟨(by repeat first|exact hN|exact trivial|refine hC (SH.at_ h (by repeat first|exact At.z|apply At.s)) ?_|refine hC (Go.E.SH.eJ h (by repeat first|exact At.z|apply At.s) λ_=>rfl) ?_|refine hC (SH.pS h (by repeat first|exact At.z|apply At.s) rfl) ?_),?_⟩;exact go h k):XS P n ops S ((⟨d,.call ⟨.value (.func f),as9,ats⟩,ty,ps,af,none⟩,false)::ls) K e w:=jS (hn:=hn) (ha:=ha) (c.mono λx w' ⟨x0,e,h,hp⟩=>⟨_,e,r x0 w' h hp (λw h=>k x0 w h hp)⟩)
theorem sW{v:Value}{G':World->Prop}(h:SH B w L)(c:Calls P f (Mb n e as9) w λx w'=>x=.returned v/\w'=w)(k:∀w',SH B w' L1->G' w')(hn:lA P f:=by first|exact En.h|exact Ox.h _ rfl)(ha:(pU n e as9.toList).isSome=true:=by rfl)(r:SH B w L->(∀w',SH B w' L1->G' w')->S w/\XS P n ops S ls K (Tm.put e d v) w:=by intro h k;refine⟨(by repeat first|exact hN|exact trivial|refine hC (SH.at_ h (by repeat first|exact At.z|apply At.s)) ?_|refine hC (Go.E.SH.eJ h (by repeat first|exact At.z|apply At.s) λ_=>rfl) ?_|refine hC (SH.pS h (by repeat first|exact At.z|apply At.s) rfl) ?_),?_⟩;exact go h k):XS P n ops S ((⟨d,.call ⟨.value (.func f),as9,ats⟩,ty,ps,af,none⟩,false)::ls) K e w:=jS (hn:=hn) (ha:=ha) (c.mono λx w' ⟨e,e2⟩=>⟨_,e,by rw[e2];exact r h k⟩)
theorem rz{fn:Func}{R:Ending->World->Prop}{t:Nat}{v:Value}(h:R (.returned v) w)(hr:fn.results=#[.tmp t]:=by rfl)(hv:ev n e (.tmp t)=some v:=by rfl):fin P fn n R .ret e w:=rr (jP hr hv) h
end Go.E
end
