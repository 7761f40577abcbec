/- Parts of a proof: E3, E4. -/
import Derived.Test.YtnhdmcipglnkfaaGreatW01
import Derived.IntWalk
import Derived.Laws.OwnMore
import Derived.Laws.MakeOwn
import Derived.Maps.AppendAt
set_option linter.unusedVariables false
set_option linter.unusedSimpArgs false
set_option maxRecDepth 100000
set_option maxHeartbeats 4000000
section
namespace Go.E
variable{P:Program}{n:Nat}{K:kG}{e:Tm}{w:World}{ops:Array Oper}{l:List Oper}{S:World->Prop}{ls:List (Oper×Bool)}{B:World}{L L':List As}
variable{d:Option Tmp}{ty:TypeId}{ps:String}{af:Array Edge}{g:Option (Nat×Bool)}
def wM(P:Program)(t:TypeId):Bool:=match P.underlying t with
 |some d=>!isRow d&&(P.info? t).map (·.size)==some 1
 |none=>false
def fo(P:Program)(s:TypeId)(i:Nat):Option Nat:=match P.underlying s with
 |some (.struct fs)=>match fs[i]? with
  |some f=>match P.info? f.type with
   |some inf=>bif Nat.beq inf.size 0 then none else some f.offset
   |none=>none
  |none=>none
 |_=>none
def fv(P:Program)(s:TypeId)(i:Nat):Option (Nat×Nat×Bool):=match P.underlying s with
 |some (.struct fs)=>match fs[i]? with
  |some f=>match P.info? f.type,P.underlying f.type with
   |some inf,some d=>some (f.offset,inf.size,isRow d)
   |_,_=>none
  |none=>none
 |_=>none
def zc(P:Program)(t:TypeId):Option (List Value):=match P.info? t with
 |some i=>i.zero.map λv=>v.cells.toList
 |none=>none
theorem vP{t:TypeId}{d:TypeDesc}(h:P.underlying t=some d):(isAgg t).run P w=.ok (isRow d) w:=by
 unfold isAgg
 simp only[Sem.run_bind,run_underlying h,Result.andThen_ok]
 cases d<;>rfl
theorem UN{t:TypeId}(h:wM P t=true):(isAgg t).run P w=.ok false w/\(P.info? t).map (·.size)=some 1:=by
 unfold wM at h
 cases hd:P.underlying t with
 |none=>rw[hd]at h;cases h
 |some d=>
  rw[hd]at h
  simp only[pM,gZ,Ae]at h
  exact⟨by rw[vP hd,h.1],h.2⟩
theorem Fits.EU{a:Act}(h:Fits n e a){xs:Array Operand}{vs:List Value}(hx:uU n e xs.toList=some vs):xs.map a.eval=vs.toArray:=by
 rw[<- h.aBc hx];apply Array.ext';simp
theorem mv{x:Operand}{v:Value}(hx:ev n e x=some v):Y P n e ⟨d,.move x,ty,ps,af,g⟩ w v w:=λa ha=>by
 simp[execOp,ha.eval hx]
theorem sg{x:Operand}{v:Value}(hx:ev n e x=some v):Y P n e ⟨d,.assign x,ty,ps,af,g⟩ w v w:=λa ha=>by
 simp[execOp,ha.eval hx]
theorem fa{s:TypeId}{i off o b:Nat}{x:Operand}(hF:fo P s i=some off)(hx:ev n e x=some (.pointer (some ⟨b,o,none⟩))):Y P n e ⟨d,.fieldAddr s x i,ty,ps,af,g⟩ w (.pointer (some ⟨b,o+off,none⟩)) w:=λa ha=>by
 unfold fo at hF
 cases hd:P.underlying s with
 |none=>rw[hd]at hF;cases hF
 |some dd=>
  rw[hd]at hF
  cases dd<;>try (cases hF;done)
  rename_i fs
  dsimp only at hF
  cases hf:fs[i]? with
  |none=>rw[hf]at hF;cases hF
  |some f=>
   rw[hf]at hF
   dsimp only at hF
   cases hi:P.info? f.type with
   |none=>rw[hi]at hF;cases hF
   |some inf=>
    rw[hi]at hF
    dsimp only at hF
    cases hz:Nat.beq inf.size 0 with
    |true=>rw[hz]at hF;cases hF
    |false=>
     rw[hz]at hF
     simp only[fN,Bs]at hF
     have Tx:inf.size≠0:=λe=>by rw[e]at hz;cases hz
     have aPx:(⟨b,o,none⟩:Addr).add f.offset=⟨b,o+f.offset,none⟩:=by
      unfold Addr.add;split
      ·rename_i h0;rw[h0];rfl
      ·rfl
     subst hF
     simp[execOp,ha.eval hx,Instr.fieldAt,run_underlying hd,hf,Instr.sureAddr,fieldPlace,sizeOf,typeInfo,hi,Tx,aPx]
theorem fd{s:TypeId}{i off:Nat}{x:Operand}{cs:List Value}{v:Value}(hF:fv P s i=some (off,1,false))(hx:ev n e x=some (.agg cs.toArray))(hv:cs[off]?=some v):Y P n e ⟨d,.field s x i,ty,ps,af,g⟩ w v w:=λa ha=>by
 unfold fv at hF
 cases hd:P.underlying s with
 |none=>rw[hd]at hF;cases hF
 |some dd=>
  rw[hd]at hF
  cases dd<;>try (cases hF;done)
  rename_i fs
  dsimp only at hF
  cases hf:fs[i]? with
  |none=>rw[hf]at hF;cases hF
  |some f=>
   rw[hf]at hF
   dsimp only at hF
   cases hi:P.info? f.type with
   |none=>rw[hi]at hF;cases hF
   |some inf=>
    cases hu:P.underlying f.type with
    |none=>rw[hi,hu]at hF;cases hF
    |some d2=>
     rw[hi,hu]at hF
     simp only[Bs,Prod.mk.injEq]at hF
     obtain⟨h1,h2,h3⟩:=hF
     have hg:=vP (w:=w) hu
     rw[h3]at hg
     simp[execOp,ha.eval hx,Instr.field,run_underlying hd,hf,asAgg,part,hg,h1,hv]
theorem xr{x:Operand}{i:Nat}{vs:List Value}{v:Value}(hx:ev n e x=some (.tuple vs.toArray))(hv:vs[i]?=some v):Y P n e ⟨d,.extract x i,ty,ps,af,g⟩ w v w:=λa ha=>by
 simp[execOp,ha.eval hx,Instr.extract,hv]
theorem ld{t:TypeId}{x:Operand}{p:Addr}{v:Value}(hT:wM P t=true)(hx:ev n e x=some (.pointer (some p)))(hc:w.cell? p=some v):Y P n e ⟨d,.load t x,ty,ps,af,g⟩ w v w:=λa ha=>by
 have h1:=(UN (w:=w) hT).1
 simp[execOp,ha.eval hx,Instr.loadAt,Instr.sureAddr,loadVar,h1,load,Sem.run,hc]
theorem pI(b o j:Nat):(⟨b,o,none⟩:Addr).add j=⟨b,o+j,none⟩:=by
 unfold Addr.add;split
 ·rename_i h0;rw[h0];rfl
 ·rfl
theorem D1{t:TypeId}{b o:Nat}{cs:List Value}(hT:Dz P t=some cs.length)(hc:∀j v,cs[j]?=some v->w.cell? ⟨b,o+j,none⟩=some v):(loadVar t ⟨b,o,none⟩).run P w=.ok (.agg cs.toArray) w:=by
 obtain⟨dd,h1,h2,h3⟩:=Is hT
 have hg:=vP (w:=w) h1
 rw[h2]at hg
 have hl:=run_loadCells_list (P:=P) w ⟨b,o,none⟩ cs (λj v hv=>by rw[pI];exact hc j v hv)
 cases hq:P.info? t with
 |none=>rw[hq]at h3;cases h3
 |some i=>
  rw[hq]at h3
  have h4:i.size=cs.length:=by simpa using h3
  simp[loadVar,hg,sizeOf,typeInfo,hq,h4,hl]
theorem kB{t:TypeId}{x:Operand}{b o:Nat}{cs:List Value}(hx:ev n e x=some (.pointer (some ⟨b,o,none⟩)))(hc:∀j v,cs[j]?=some v->w.cell? ⟨b,o+j,none⟩=some v)(hT:Dz P t=some cs.length):Y P n e ⟨d,.load t x,ty,ps,af,g⟩ w (.agg cs.toArray) w:=λa ha=>by
 simp[execOp,ha.eval hx,Instr.loadAt,Instr.sureAddr,D1 hT hc]
theorem hX{b:Nat}{cs:List Value}{t:TypeId}(h:w.heap[b]?=some (.cells cs.toArray t (0,0)))(o:Nat){c2:List Value}(hc:(cs.drop o).take c2.length=c2):∀j v,c2[j]?=some v->w.cell? ⟨b,o+j,none⟩=some v:=λj v hj=>by
 have hl:=(List.getElem?_eq_some_iff.1 hj).1
 rw[<- hc,DN,if_pos hl,WA]at hj
 simp[World.cell?,h,hj]
theorem eH{b:Nat}{cs:List Value}{t:TypeId}(h:w.heap[b]?=some (.cells cs.toArray t (0,0))):∀j v,cs[j]?=some v->w.cell? ⟨b,0+j,none⟩=some v:=λj v hj=>by
 simp[World.cell?,h,hj]
def HO(op:BinOp)(k:IntKind)(a b:Int):Option Value:=
 match op with
 |.add=>some (.int k (k.wrap (a+b)))
 |.sub=>some (.int k (k.wrap (a-b)))
 |.mul=>some (.int k (k.wrap (a*b)))
 |.eql=>some (.bool (a==b))
 |.neq=>some (.bool (a != b))
 |.lss=>some (.bool (decide (a<b)))
 |.leq=>some (.bool (decide (a<=b)))
 |.gtr=>some (.bool (decide (a>b)))
 |.geq=>some (.bool (decide (a>=b)))
 |.and=>some (.int k (k.wrap (BitVec.ofInt k.bits a&&&BitVec.ofInt k.bits b).toNat))
 |.or=>some (.int k (k.wrap (BitVec.ofInt k.bits a|||BitVec.ofInt k.bits b).toNat))
 |.xor=>some (.int k (k.wrap (BitVec.ofInt k.bits a^^^BitVec.ofInt k.bits b).toNat))
 |.andNot=>some (.int k (k.wrap (BitVec.ofInt k.bits a&&&~~~ BitVec.ofInt k.bits b).toNat))
 |_=>none
theorem bi{op:BinOp}{xt yt:TypeId}{x y:Operand}{k:IntKind}{a b:Int}{v:Value}(hx:ev n e x=some (.int k a))(hy:ev n e y=some (.int k b))(hr:HO op k a b=some v):Y P n e ⟨d,.binOp op xt x y yt,ty,ps,af,g⟩ w v w:=λc hc=>by
 cases op<;>simp only[HO,Bs]at hr<;>first
  |(cases hr;done)
  |(subst hr;simp[execOp,hc.eval hx,hc.eval hy,eqGuard,binOp,Op.intArith,Op.intCmp,Op.intBits])
theorem bw{op:BinOp}{xt yt:TypeId}{x y:Operand}{k:IntKind}{a b c:Int}(hx:ev n e x=some (.int k a))(hy:ev n e y=some (.int k b))(hr:HO op k a b=some (.int k c)):Y P n e ⟨d,.binOp op xt x y yt,ty,ps,af,g⟩ w (.int k c) w:=bi hx hy hr
theorem w64{a:Int}(h0:-9223372036854775808<=a)(h1:a<=9223372036854775807):IntKind.i64.wrap a=a:=by rw[IntKind.wrap_i64];omega
theorem iR{a b c:Int}(hc:a+b=c)(h0:-9223372036854775808<=c)(h1:c<=9223372036854775807):HO .add .i64 a b=some (.int .i64 c):=by unfold HO;rw[hc,w64 h0 h1]
theorem Jb{a b c:Int}(hc:a-b=c)(h0:-9223372036854775808<=c)(h1:c<=9223372036854775807):HO .sub .i64 a b=some (.int .i64 c):=by unfold HO;rw[hc,w64 h0 h1]
theorem br{xt yt:TypeId}{x y:Operand}{k:IntKind}{a b:Int}(hx:ev n e x=some (.int k a))(hy:ev n e y=some (.int k b))(hb:b≠0):Y P n e ⟨d,.binOp .rem xt x y yt,ty,ps,af,g⟩ w (.int k (a.tmod b)) w:=λc hc=>by
 simp[execOp,hc.eval hx,hc.eval hy,eqGuard,binOp,Op.intDiv,hb]
def aJy(op:BinOp)(a b:ByteArray):Option Bool:=
 match op with
 |.eql=>some (a.toList==b.toList)
 |.neq=>some (!(a.toList==b.toList))
 |.lss=>some (Op.bytesLess a.toList b.toList)
 |.leq=>some (Op.bytesLess a.toList b.toList||a.toList==b.toList)
 |.gtr=>some (!(Op.bytesLess a.toList b.toList||a.toList==b.toList))
 |.geq=>some (!Op.bytesLess a.toList b.toList)
 |_=>none
theorem sb{op:BinOp}{xt yt:TypeId}{x y:Operand}{a b:ByteArray}{v:Bool}(hx:ev n e x=some (.string a))(hy:ev n e y=some (.string b))(hr:aJy op a b=some v):Y P n e ⟨d,.binOp op xt x y yt,ty,ps,af,g⟩ w (.bool v) w:=λc hc=>by
 cases op<;>simp only[aJy,Bs]at hr<;>first
  |(cases hr;done)
  |(subst hr;simp[execOp,hc.eval hx,hc.eval hy,eqGuard,binOp,Op.stringOp])
theorem nt{xt:TypeId}{x:Operand}{b:Bool}(hx:ev n e x=some (.bool b)):Y P n e ⟨d,.unOp .not xt x,ty,ps,af,g⟩ w (.bool (!b)) w:=λa ha=>by
 simp[execOp,ha.eval hx,Op.unary]
theorem bc{op:BinOp}{xt yt:TypeId}{x y:Operand}{a b v:Value}(hx:ev n e x=some a)(hy:ev n e y=some b)(hr:(do eqGuard op xt x y a b;binOp op xt a b:Sem Value).run P w=.ok v w):Y P n e ⟨d,.binOp op xt x y yt,ty,ps,af,g⟩ w v w:=λc hc=>by
 simp only[execOp,hc.eval hx,hc.eval hy]
 rw[Sem.run_bind,hr];rfl
theorem cv{s t:TypeId}{ds:TypeDesc}{x:Operand}{k k':IntKind}{a:Int}(hs:P.underlying s=some ds)(ht:P.underlying t=some (.int k))(hx:ev n e x=some (.int k' a)):Y P n e ⟨d,.convert s t x,ty,ps,af,g⟩ w (.int k (k.wrap a)) w:=λc hc=>by
 simp[execOp,hc.eval hx,convert,run_underlying hs,run_underlying ht,Conv.intToInt]
theorem O8{s t:TypeId}{ds:TypeDesc}{x:Operand}{k k':IntKind}{a c:Int}(hs:P.underlying s=some ds)(ht:P.underlying t=some (.int k))(hx:ev n e x=some (.int k' a))(hw:k.wrap a=c):Y P n e ⟨d,.convert s t x,ty,ps,af,g⟩ w (.int k c) w:=hw▸cv hs ht hx
theorem brw{xt yt:TypeId}{x y:Operand}{k:IntKind}{a b c:Int}(hx:ev n e x=some (.int k a))(hy:ev n e y=some (.int k b))(hb:b≠0)(hr:a.tmod b=c):Y P n e ⟨d,.binOp .rem xt x y yt,ty,ps,af,g⟩ w (.int k c) w:=hr▸br hx hy hb
theorem mi{t:TypeId}{dt:TypeDesc}{x:Operand}{v:Value}(ht:P.underlying t=some dt)(hi:(match dt with|.interface _=>true|_=>false)=false)(hx:ev n e x=some v):Y P n e ⟨d,.makeInterface t x,ty,ps,af,g⟩ w (.iface t v) w:=λc hc=>by
 cases dt<;>first|(cases hi;done)|simp[execOp,hc.eval hx,Instr.makeInterface,run_underlying ht]
theorem mf{fn:Fn}{f c:Array Operand}{vf vc:List Value}(hf:uU n e f.toList=some vf)(hc:uU n e c.toList=some vc):Y P n e ⟨d,.makeFunc fn f c,ty,ps,af,g⟩ w (.func fn vf.toArray vc.toArray) w:=λa ha=>by
 have h1:f.map a.eval=vf.toArray:=ha.EU hf
 have h2:c.map a.eval=vc.toArray:=ha.EU hc
 simp[execOp,Instr.makeFunc,h1,h2]
theorem nc{x:Operand}{v:Value}(hx:ev n e x=some v)(hv:(match v with|.pointer none=>true|.nilIface=>true|.nilFunc=>true|.func (.method _) _ _=>true|_=>false)=false):Y P n e ⟨d,.nilCheck x,ty,ps,af,g⟩ w v w:=λa ha=>by
 simp only[execOp,ha.eval hx]
 split<;>first|(cases hv;done)|rfl
theorem ln{ats:Array TypeId}{t el:TypeId}{x:Operand}{p:Option Addr}{m c:Nat}(ht:P.underlying t=some (.slice el))(h0:ats=#[t])(hx:ev n e x=some (.slice p m c)):Y P n e ⟨d,.call ⟨.builtin .len,#[x],ats⟩,ty,ps,af,g⟩ w (.int .i64 m) w:=λa ha=>by
 subst h0
 simp[execOp,resolve,invoke,builtin,Builtin.len_,ha.eval hx,run_underlying ht,goInt]
theorem A9{ats:Array TypeId}{t:TypeId}{x:Operand}{s:ByteArray}(ht:P.underlying t=some .string)(h0:ats=#[t])(hx:ev n e x=some (.string s)):Y P n e ⟨d,.call ⟨.builtin .len,#[x],ats⟩,ty,ps,af,g⟩ w (.int .i64 s.size) w:=λa ha=>by
 subst h0
 simp[execOp,resolve,invoke,builtin,Builtin.len_,ha.eval hx,run_underlying ht,goInt]
theorem ia{t el:TypeId}{x i:Operand}{b o m c sz:Nat}{k:IntKind}{j:Int}(ht:P.underlying t=some (.slice el))(hs:(P.info? el).map (·.size)=some sz)(hx:ev n e x=some (.slice (some ⟨b,o,none⟩) m c))(hi:ev n e i=some (.int k j))(h0:0<=j)(h1:j<m):Y P n e ⟨d,.indexAddr t x i,ty,ps,af,g⟩ w (.pointer (some ⟨b,o+j.toNat*sz,none⟩)) w:=λa ha=>by
 cases hq:P.info? el with
 |none=>rw[hq]at hs;cases hs
 |some inf=>
  rw[hq]at hs
  have mD:inf.size=sz:=by simpa using hs
  simp[execOp,ha.eval hx,ha.eval hi,Instr.indexAt,asIntOf,run_underlying ht,h0,h1,sizeOf,typeInfo,hq,mD,pI]
theorem ca{f:FuncId}{as9:Array Operand}{ats:Array TypeId}{vs:List Value}(en:nH P f)(ha:uU n e as9.toList=some vs):Ca P n e ⟨d,.call ⟨.value (.func f),as9,ats⟩,ty,ps,af,g⟩ w f vs.toArray:=λa hf=>by
 have h1:as9.map a.eval=vs.toArray:=hf.EU ha
 simp[execOp,resolve,Deferred.ofValue,Act.eval,invoke,h1,en vs.toArray w]
theorem cv_{x:Operand}{f:FuncId}{ff fc:List Value}{as9:Array Operand}{ats:Array TypeId}{vs:List Value}(en:nH P f)(hx:ev n e x=some (.func (.func f) ff.toArray fc.toArray))(ha:uU n e as9.toList=some vs):Ca P n e ⟨d,.call ⟨.value x,as9,ats⟩,ty,ps,af,g⟩ w f (ff++vs++fc).toArray:=λa hf=>by
 have h1:as9.map a.eval=vs.toArray:=hf.EU ha
 have h2:(ff++vs++fc).toArray=ff.toArray++vs.toArray++fc.toArray:=by simp
 rw[h2]
 simp only[execOp,resolve,hf.eval hx,Deferred.ofValue,invoke,h1,Sem.run_bind,Sem.run_pure,Result.andThen_ok]
 rw[<- en _ w]
def F(P:Program)(n:Nat)(e:Tm)(o:Oper)(w:World)(Φ:Value->World->Prop):Prop:=∃v w',(Y P n e o w v w'\/(U P n e o w w'/\v=undef))/\Φ v w'
theorem sf{o:Oper}{Φ:Value->World->Prop}(f:F P n e o w Φ)(k:∀v w',Φ v w'->X P n ops l K (Tm.put e o.dst v) w')(hg:o.guard=none:=by rfl):X P n ops (o::l) K e w:=by
 obtain⟨v,w',h|⟨h,rfl⟩,hp⟩:=f
 ·exact st h (k v w' hp) hg
 ·exact su h (k _ w' hp) hg
theorem ff{o:Oper}{Φ:Value->World->Prop}(f:F P n e o w Φ)(k:∀v w',Φ v w'->S w'/\XS P n ops S ls K (Tm.put e o.dst v) w')(hg:o.guard=none:=by rfl):XS P n ops S ((o,false)::ls) K e w:=by
 obtain⟨v,w',h|⟨h,rfl⟩,hp⟩:=f
 ·exact ef h (k v w' hp).1 (k v w' hp).2 hg
 ·exact eu h (k _ w' hp).1 (k _ w' hp).2 hg
theorem SH.alloc{cs:List Value}{t:TypeId}(h:SH B w L):SH B (w.alloc (.cells cs.toArray t)) (bl w.heap.size cs t::L):=
 h.new (Kp.alloc _ w _) (O:=λk=>k=w.heap.size) (R:=λ_=>False) ⟨heap_alloc_new w _,λ_=>Iff.rfl,λ_ h=>h⟩ (λk hk=>by omega) (λ_ h=>h.elim)
theorem al{t:TypeId}{cs:List Value}(h:SH B w L)(hz:zc P t=some cs):F P n e ⟨d,.alloc t,ty,ps,af,g⟩ w λv w'=>∃b,v=.pointer (some ⟨b,0,none⟩)/\SH B w' (bl b cs t::L):=by
 unfold zc at hz
 cases hi:P.info? t with
 |none=>rw[hi]at hz;cases hz
 |some i=>
  rw[hi]at hz
  dsimp only at hz
  cases hv:i.zero with
  |none=>rw[hv]at hz;cases hz
  |some v=>
   rw[hv]at hz
   simp only[Ze,Bs]at hz
   have Tx:v.cells=cs.toArray:=by rw[<- hz]
   refine⟨.pointer (some ⟨w.heap.size,0,none⟩),_,.inl λa ha=>?_,_,rfl,h.alloc⟩
   simp[execOp,Instr.alloc,zeroValue,typeInfo,hi,hv,newVar,newRow,Tx]
theorem bx{t:TypeId}{x:Operand}{v:Value}{cs:List Value}(h:SH B w L)(hx:ev n e x=some v)(hc:v.cells=cs.toArray):F P n e ⟨d,.box t x,ty,ps,af,g⟩ w λv w'=>∃b,v=.pointer (some ⟨b,0,none⟩)/\SH B w' (bl b cs t::L):=by
 refine⟨.pointer (some ⟨w.heap.size,0,none⟩),_,.inl λa ha=>?_,_,rfl,h.alloc⟩
 simp[execOp,ha.eval hx,Instr.box,newVar,newRow,hc]
theorem SH.write{b:Nat}{cs cs':List Value}{t:TypeId}(h:SH B w L)(u:xO L L' (bl b cs t) (bl b cs' t)):SH B (w.setRow b cs'.toArray) L':=
 h.step u λO R hA=>⟨O,R,⟨setRow_heap _ _ _ _ _ _ hA.1,hA.2⟩,⟨⟨rfl,rfl,rfl⟩,by simp[World.setRow],λk hk hn=>setRow_other _ _ _ _ λe=>hn ((hA.2.1 k).2 e)⟩,λk hk=>.inl hk,λk hk=>.inr (.inl hk)⟩
theorem so{t u:TypeId}{x y:Operand}{b o:Nat}{v:Value}{cs cs' vs:List Value}(h:SH B w L)(hx:ev n e x=some (.pointer (some ⟨b,o,none⟩)))(hy:ev n e y=some v)(hv:v.cells=vs.toArray)(hT:(P.info? t).map (·.size)=some vs.length)(h1:vs.all Value.oneCell'=true)
  (sp:Vm o cs vs cs') (up:xO L L' (bl b cs u) (bl b cs' u)):F P n e ⟨d,.store t x y,ty,ps,af,g⟩ w λ_ w'=>SH B w' L':=by
 obtain⟨m,m0,m1,_⟩:=up.ix
 obtain⟨hs,O,R,g1,g2⟩:=h
 have hb:=(g1 m _ m1).1
 have h:SH B w L:=⟨hs,O,R,g1,g2⟩
 obtain⟨e1,e2⟩:=sp.eq
 refine⟨undef,_,.inr ⟨λa ha=>?_,rfl⟩,h.write up⟩
 cases hq:P.info? t with
 |none=>rw[hq]at hT;cases hT
 |some i=>
  rw[hq]at hT
  have h4:i.size=vs.length:=by simpa using hT
  have h5:v.cells.size=vs.length:=by rw[hv];simp
  have h6:=run_storeCells_at P b o u vs 0 cs.toArray w hb (by simpa using e2) (λv hv=>List.all_eq_true.1 h1 v hv)
  simp only[P1]at h6
  have h7:v.cells.toList=vs:=by rw[hv]
  simp[execOp,ha.eval hx,ha.eval hy,Instr.storeAt,Instr.sureAddr,storeVar,sizeOf,typeInfo,hq,h4,h5,h7,h6,e1]
theorem pT{c a b:Operand}{f:Bool}{v:Value}(hc:ev n e c=some (.bool f))(hf:f=true)(ha:ev n e a=some v):Y P n e ⟨d,.pick c a b,ty,ps,af,g⟩ w v w:=λs hs=>by
 simp[execOp,hs.eval hc,hs.eval ha,hf,asBool]
theorem pF{c a b:Operand}{f:Bool}{v:Value}(hc:ev n e c=some (.bool f))(hf:f=false)(hb:ev n e b=some v):Y P n e ⟨d,.pick c a b,ty,ps,af,g⟩ w v w:=λs hs=>by
 simp[execOp,hs.eval hc,hs.eval hb,hf,asBool]
end Go.E
end
section
namespace Go.E
variable{P:Program}{n:Nat}{K:kG}{e:Tm}{w:World}{ops:Array Oper}{l:List Oper}{S:World->Prop}{ls:List (Oper×Bool)}{B:World}{L L':List As}
variable{d:Option Tmp}{ty:TypeId}{ps:String}{af:Array Edge}{g:Option (Nat×Bool)}
def Rd(w:World)(b off sz m:Nat)(xs:List Value):Prop:=xs.length=m*sz/\∀j u,xs[j]?=some u->w.cell? ⟨b,off+j,none⟩=some u
theorem NV{e:TypeId}{sz m b c:Nat}{xs:List Value}{O R:Nat->Prop}(h:(aV e sz (.slice (some ⟨b,0,none⟩) m c) m xs).p w O R):Rd w b 0 sz m xs:=
 ⟨h.1.1,λj u hu=>by
  have:=h.1.cells (g:=b) rfl j u hu
  rw[pI]at this;exact this⟩
theorem y0{sz m b o c:Nat}{xs:List Value}{O R:Nat->Prop}(h:(bS sz (.slice (some ⟨b,o,none⟩) m c) m xs).p w O R):Rd w b o sz m xs:=by
 refine⟨h.1.1,λj u hu=>?_⟩
 rcases h.1.2 with⟨h1,_⟩|⟨b',o',c',h1,_,_,_,h2⟩
 ·cases h1
 ·injection h1 with h1 _ _;injection h1 with h1;injection h1 with h3 h4;subst h3 h4;exact h2 j u hu
theorem SH.ro{e:TypeId}{sz m b c:Nat}{xs:List Value}(h:SH B w L)(m':At L (aV e sz (.slice (some ⟨b,0,none⟩) m c) m xs)):Rd w b 0 sz m xs:=by
 obtain⟨_,_,h1⟩:=h.at_ m';exact NV h1
theorem SH.rr{sz m b o c:Nat}{xs:List Value}(h:SH B w L)(m':At L (bS sz (.slice (some ⟨b,o,none⟩) m c) m xs)):Rd w b o sz m xs:=by
 obtain⟨_,_,h1⟩:=h.at_ m';exact y0 h1
theorem Hs.ro{Fs:List As}{e:TypeId}{sz m b c:Nat}{xs:List Value}(h:Hs Fs w)(m':At Fs (aV e sz (.slice (some ⟨b,0,none⟩) m c) m xs)):Rd w b 0 sz m xs:=by
 obtain⟨_,_,h1⟩:=h _ m';exact NV h1
theorem Hs.rr{Fs:List As}{sz m b o c:Nat}{xs:List Value}(h:Hs Fs w)(m':At Fs (bS sz (.slice (some ⟨b,o,none⟩) m c) m xs)):Rd w b o sz m xs:=by
 obtain⟨_,_,h1⟩:=h _ m';exact y0 h1
theorem Rd.i{b off m:Nat}{k:IntKind}{xs:List Int}(h:Rd w b off 1 m (xs.map (Value.int k))){j:Nat}(hj:j<m):w.cell? ⟨b,off+j*1,none⟩=some (.int k (xs.getD j 0)):=by
 have hl:j<xs.length:=by have:=h.1;simp at this;omega
 rw[Nat.mul_one]
 refine h.2 j _ ?_
 rw[AG,fV hl,cK,fV hl];rfl
theorem zE{α:Type}{enc:α->List Value}{sz:Nat}(he:∀x,(enc x).length=sz):∀(xs:List α) (j i:Nat) (x:α),xs[j]?=some x->i<sz->(xs.flatMap enc)[j*sz+i]?=(enc x)[i]?
 |[],j,i,x,h,_=>by cases h
 |y::xs,0,i,x,h,hi=>by
  simp only[NK,Bs]at h
  subst h
  rw[HY,Nat.zero_mul,wS,vS (by rw[he];exact hi)]
 |y::xs,j+1,i,x,h,hi=>by
  rw[Mb]at h
  rw[HY,tN (by rw[he,Nat.succ_mul];omega),he,show (j+1)*sz+i-sz=j*sz+i by rw[Nat.succ_mul];omega]
  exact zE he xs j i x h hi
theorem zZ{α:Type}{enc:α->List Value}{sz:Nat}(he:∀x,(enc x).length=sz):∀xs:List α,(xs.flatMap enc).length=xs.length*sz
 |[]=>by simp
 |y::xs=>by rw[HY,cV,he,zZ he xs,Hd,Nat.succ_mul];omega
theorem Rd.x{α:Type}{b off m sz:Nat}{enc:α->List Value}{xs:List α}(h:Rd w b off sz m (xs.flatMap enc))(he:∀x,(enc x).length=sz)(hs:0<sz){j:Nat}(hj:j<m)(d:α):∀i u,(enc (xs.getD j d))[i]?=some u->w.cell? ⟨b,off+j*sz+i,none⟩=some u:=λi u hu=>by
 have h1:xs.length=m:=by
  have:=h.1;rw[zZ he]at this
  exact Nat.eq_of_mul_eq_mul_right hs this
 have hi:i<sz:=by rw[<- he (xs.getD j d)];exact(List.getElem?_eq_some_iff.1 hu).1
 rw[Nat.add_assoc]
 refine h.2 _ _ ?_
 rw[zE he xs j i (xs.getD j d) (by rw[cK,fV (by omega)];rfl) hi]
 exact hu
theorem SH.fo{e:TypeId}{sz m:Nat}{v:Value}{xs:List Value}(h:SH B w L)(m':At L (aV e sz v m xs)):∃p c,v=.slice p m c:=by
 obtain⟨_,_,h1⟩:=h.at_ m'
 rcases h1.1.2 with⟨h2,h3⟩|⟨g,cap,cur,h2,_⟩
 ·exact⟨none,0,by rw[h2,h3]⟩
 ·exact⟨_,_,h2⟩
theorem SH.fp{e:TypeId}{sz m c:Nat}{p:Option Addr}{xs:List Value}(h:SH B w L)(m':At L (aV e sz (.slice p m c) m xs))(hm:0<m):∃b,p=some ⟨b,0,none⟩:=by
 obtain⟨_,_,h1⟩:=h.at_ m'
 rcases h1.1.2 with⟨h2,h3⟩|⟨g,cap,cur,h2,_⟩
 ·omega
 ·injection h2 with h2;exact⟨g,h2⟩
theorem SH.fq{sz m c:Nat}{p:Option Addr}{xs:List Value}(h:SH B w L)(m':At L (bS sz (.slice p m c) m xs))(hm:0<m):∃b o,p=some ⟨b,o,none⟩:=by
 obtain⟨_,_,h1⟩:=h.at_ m'
 rcases h1.1.2 with⟨h2,h3⟩|⟨g,o,cap,h2,_⟩
 ·omega
 ·injection h2 with h2;exact⟨g,o,h2⟩
theorem SH.rl{sz m:Nat}{v:Value}{xs:List Value}(h:SH B w L)(m':At L (bS sz v m xs)):xs.length=m*sz/\m<=maxLen:=by
 obtain⟨_,_,h1⟩:=h.at_ m'
 refine⟨h1.1.1,?_⟩
 rcases h1.1.2 with⟨h2,h3⟩|⟨g,o,cap,h2,_,h3,h4,_⟩
 ·rw[h3];exact bZ _
 ·exact kR h3 h4
theorem ix{t el:TypeId}{x i:Operand}{b o m c sz j:Nat}{k:IntKind}(ht:P.underlying t=some (.slice el))(hs:(P.info? el).map (·.size)=some sz)(hx:ev n e x=some (.slice (some ⟨b,o,none⟩) m c))(hi:ev n e i=some (.int k (j:Nat)))(h1:j<m):Y P n e ⟨d,.indexAddr t x i,ty,ps,af,g⟩ w (.pointer (some ⟨b,o+j*sz,none⟩)) w:=by
 have:=ia (P:=P) (n:=n) (e:=e) (w:=w) (d:=d) (ty:=ty) (ps:=ps) (af:=af) (g:=g) ht hs hx hi (by omega) (by omega)
 rwa [Qa]at this
def sB(P:Program)(t:TypeId):Option (Value×Nat×Nat):=match P.info? t with
 |some i=>i.zero.map λv=>(v,i.size,i.bytes)
 |none=>none
theorem tQ{t:TypeId}{z:Value}{sz bt:Nat}(h:sB P t=some (z,sz,bt)):∃i,P.info? t=some i/\i.zero=some z/\i.size=sz/\i.bytes=bt:=by
 unfold sB at h
 cases hi:P.info? t with
 |none=>rw[hi]at h;cases h
 |some i=>
  rw[hi]at h
  dsimp only at h
  cases hv:i.zero with
  |none=>rw[hv]at h;cases h
  |some v=>
   rw[hv]at h
   simp only[Ze,Bs,Prod.mk.injEq]at h
   exact⟨i,rfl,by rw[hv,h.1],h.2.1,h.2.2⟩
theorem Qj{el:TypeId}{sz m m':Nat}{v v':Value}{xs xs':List Value}{w':World}(h:SH B w L)(u:xO L L' (aV el sz v m xs) (aV el sz v' m' xs'))(hg:w.grownBy w' v.ownBlock)(ho:w'.ownsRow 0 el sz v' m' xs')(hn:∀k,v'.ownBlock=some k->v.ownBlock=some k\/w.heap.size<=k):SH B w' L':=
 h.step u λO R hA=>⟨λk=>v'.ownBlock=some k,λ_=>False,⟨ho,λ_=>Iff.rfl,λ_ h=>h⟩,⟨⟨hg.os,hg.tape,hg.output⟩,hg.size,λk hk hn=>hg.block k hk λe=>hn ((hA.2.1 k).2 e.symm)⟩,λk hk=>(hn k hk).imp (λh=>(hA.2.1 k).2 h) id,λ_ h=>h.elim⟩
theorem BA{el:TypeId}{sz m:Nat}{xs:List Value}{w':World}{c:Nat}(h:SH B w L)(hg:w.grownBy w' none)(ho:w'.ownsRow 0 el sz (.slice (some ⟨w.heap.size,0,none⟩) m c) m xs):SH B w' (aV el sz (.slice (some ⟨w.heap.size,0,none⟩) m c) m xs::L):=
 h.new ⟨⟨hg.os,hg.tape,hg.output⟩,hg.size,λk hk _=>hg.block k hk (by simp)⟩ (O:=λk=>Value.ownBlock (.slice (some ⟨w.heap.size,0,none⟩) m c)=some k) (R:=λ_=>False) ⟨ho,λ_=>Iff.rfl,λ_ h=>h⟩ (λk hk=>by simp[Value.ownBlock]at hk;omega) (λ_ h=>h.elim)
theorem mk{t el:TypeId}{x y:Operand}{z:Value}{sz bt m:Nat}{k k':IntKind}(h:SH B w L)(ht:P.underlying t=some (.slice el))(hz:sB P el=some (z,sz,bt))(hx:ev n e x=some (.int k (m:Nat)))(hy:ev n e y=some (.int k' (m:Nat)))(hb:bt*m<=281474976710656)(h63:m<=maxLen):
  F P n e ⟨d,.makeSlice t x y,ty,ps,af,g⟩ w λv w'=>∃b,v=.slice (some ⟨b,0,none⟩) m m/\SH B w' (aV el sz (.slice (some ⟨b,0,none⟩) m m) m (madeCells z.cells (m*sz)).toList::L):=by
 obtain⟨i,h1,h2,h3,h4⟩:=tQ hz
 obtain⟨w',g1,g2,g3⟩:=run_make_full (P:=P) w 0 t el i z sz ht h1 h2 h3 k k' m (by rw[h4];exact hb) h63 (bZ _)
 exact⟨_,w',.inl λa ha=>by simp[execOp,ha.eval hx,ha.eval hy,g1],_,rfl,BA h g3 g2⟩
theorem Sq{k:IntKind}(m:Nat):(madeCells (Value.int k 0).cells (m*1)).toList=(List.replicate m (0:Int)).map (Value.int k):=by
 apply List.ext_getElem
 ·simp[madeCells]
 ·intro i h1 h2
  simp[madeCells,Value.cells,Nat.mod_one]
theorem Zz{a:Act}(ha:Fits n e a):∀{ps:List (Nat×Operand)} {vs:List Value},uU n e (ps.map (·.2))=some vs->ps.map (λp=>(p.1,a.eval p.2))=(ps.map (·.1)).zip vs
 |[],vs,h=>by simp only[List.map_nil,uU,Bs]at h;rw[<- h];rfl
 |q::ps,vs,h=>by
  rw[KP]at h
  unfold uU at h
  cases h1:ev n e q.2 with
  |none=>simp[h1]at h
  |some v=>cases h2:uU n e (ps.map (·.2))with
   |none=>simp[h1,h2]at h
   |some us=>
    simp only[h1,h2,Bs]at h
    rw[<- h,KP,Zz ha h2,ha.eval h1];rfl
theorem bu{t el:TypeId}{m:Nat}{parts:Array (Nat×Operand)}{z:Value}{sz bt:Nat}{vs:List Value}(cs:List Value)(h:SH B w L)(ht:P.underlying t=some (.slice el))(hz:sB P el=some (z,sz,bt))
  (hp:uU n e (parts.toList.map (·.2))=some vs)
  (hc:Instr.fill (λi=>some (i*sz,sz)) ((Array.range (m*sz)).map ((if m*sz=0 then #[]else z.cells)[·%(if m*sz=0 then #[]else z.cells).size]!)) ((parts.toList.map (·.1)).zip vs)=some cs.toArray) (hl:cs.length=m*sz) (hm:m*sz<=16777216) (h63:m<=maxLen):
  F P n e ⟨d,.buildSlice t m parts,ty,ps,af,g⟩ w λv w'=>∃b,v=.slice (some ⟨b,0,none⟩) m m/\SH B w' (aV el sz (.slice (some ⟨b,0,none⟩) m m) m cs::L):=by
 obtain⟨i,h1,h2,h3,h4⟩:=tQ hz
 subst h3
 have hn:¬(m*i.size>2^24):=by omega
 refine⟨.slice (some ⟨w.heap.size,0,none⟩) m m,w.alloc (.cells cs.toArray el),.inl λa ha=>?_,_,rfl,BA h (World.grownBy_alloc w _ none) ⟨hl,.inr ⟨w.heap.size,m,cs.toArray,rfl,bZ _,heap_alloc_new w _,aW _,h63,by simpa using hl,by rw[<- hl];simp⟩⟩⟩
 obtain⟨pv,KW⟩:∃pv,(parts.toList.map (·.1)).zip vs=pv:=⟨_,rfl⟩
 rw[KW]at hc
 have hpp:(parts.map λ(p:Nat×Operand)=>(p.1,a.eval p.2))=pv.toArray:=by
  apply Array.ext';rw[Array.toList_map,<- KW];exact Zz ha hp
 simp only[execOp,Instr.buildSlice,Sem.run_bind,run_underlying ht,Result.andThen_ok,sizeOf,typeInfo]
 have aAl:(parts.map λ(i,x)=>(i,a.eval x))=pv.toArray:=hpp
 by_cases h0:m*i.size=0
 ·rw[if_pos h0]at hc
  simp[h1,h0,aAl,newRow]
  rw[h0]at hc
  simp at hc
  simp[hc]
 ·rw[if_neg h0]at hc
  simp[h1,h0,hn,aAl,newRow,zeroValue,typeInfo,h2]
  simp[hc]
theorem ap{t el:TypeId}{ats:Array TypeId}{x y:Operand}{z v:Value}{sz bt m k c b o q:Nat}{xs news zs:List Value}{L':Value->List As}(h:SH B w L)(ht:P.underlying t=some (.slice el))(h0:ats=#[t,t])(hz:sB P el=some (z,sz,bt))(fC:z.cells.size=sz)(hsz:0<sz)
  (hx:ev n e x=some v) (hy:ev n e y=some (.slice (some ⟨b,o,none⟩) k c)) (up:∀v',xO L (L' v') (aV el sz v m xs) (aV el sz v' q zs)) (hr:Rd w b o sz k news) (h1:∀u∈news,Value.oneCell' u=true) (hq:m+k=q) (hxs:xs++news=zs) (h63:q<=maxLen) (hb:q*bt<=140737488355328):
  F P n e ⟨d,.call ⟨.builtin .append,#[x,y],ats⟩,ty,ps,af,g⟩ w λv w'=>∃p c,v=.slice p q c/\SH B w' (L' v):=by
 subst h0 hq hxs
 obtain⟨i,g1,g2,g3,g4⟩:=tQ hz
 obtain⟨mm,m0,m1,_⟩:=(up v).ix
 have Eh:w.ownsRow 0 el sz v m xs:=by obtain⟨_,O,R,hp,_⟩:=h;exact(hp mm _ m1).1
 obtain⟨v',w',r1,r2,r3,r4,r5⟩:=run_append_own_at (P:=P) w 0 t ty el i z sz bt ht g1 g2 g3 g4 fC hsz v m xs Eh ⟨b,o,none⟩ k c news hr.1 (λj u hu=>by rw[pI];exact hr.2 j u hu) h1 h63 hb (bZ _)
 have hf:∃p c,v'=.slice p (m+k) c:=by
  rcases r2.2 with⟨h2,h3⟩|⟨g,cap,cur,h2,_⟩
  ·exact⟨none,0,by rw[h2,h3]⟩
  ·exact⟨_,_,h2⟩
 obtain⟨p,c',hv⟩:=hf
 refine⟨v',w',.inl λa ha=>?_,p,c',hv,Qj h (up v') r3 r2 λj hj=>r5.elim (λe=>.inl (e▸hj)) λe=>.inr ?_⟩
 ·simp[execOp,resolve,invoke,builtin,ha.eval hx,ha.eval hy,r1]
 ·rw[e]at hj;injection hj with hj;omega
theorem vQ{α:Type}{l:List α}{k:Nat}(h:k<l.length)(d:α):l.drop k=l.getD k d::l.drop (k+1):=by
 rw[cK,fV h];exact UM h
theorem ap0{t el:TypeId}{ats:Array TypeId}{x y:Operand}{z v:Value}{sz bt m:Nat}{xs:List Value}(h:SH B w L)(m':At L (aV el sz v m xs))(ht:P.underlying t=some (.slice el))(h0:ats=#[t,t])(hz:sB P el=some (z,sz,bt))(hx:ev n e x=some v)(hy:ev n e y=some (.slice none 0 0)):
  Y P n e ⟨d,.call ⟨.builtin .append,#[x,y],ats⟩,ty,ps,af,g⟩ w v w:=λa ha=>by
 subst h0
 obtain⟨i,g1,g2,g3,g4⟩:=tQ hz
 obtain⟨_,_,hA⟩:=h.at_ m'
 have Eh:=hA.1
 rcases Eh.2 with⟨h2,h3⟩|⟨g,cap,cur,h2,_,h4,h5,_⟩
 ·subst h2;subst h3
  simp[execOp,resolve,invoke,builtin,ha.eval hx,ha.eval hy,Builtin.append_,run_underlying ht,sizeOf,typeInfo,g1,Builtin.lenOf,Builtin.firstCells]
 ·subst h2
  have oP:(storeCells ((⟨g,0,none⟩:Addr).add (m*i.size)) []).run P w=.ok () w:=rfl
  simp[execOp,resolve,invoke,builtin,ha.eval hx,ha.eval hy,Builtin.append_,run_underlying ht,sizeOf,typeInfo,g1,Builtin.lenOf,Builtin.firstCells,h5,storeCells]
theorem soi{t el:TypeId}{x y:Operand}{b c m j:Nat}{k:IntKind}{a:Int}{xs:List Int}(h:SH B w L)(hT:(P.info? t).map (·.size)=some 1)(hx:ev n e x=some (.pointer (some ⟨b,0+j*1,none⟩)))(hy:ev n e y=some (.int k a))(hj:j<m)
  (up:xO L L' (aV el 1 (.slice (some ⟨b,0,none⟩) m c) m (xs.map (Value.int k))) (aV el 1 (.slice (some ⟨b,0,none⟩) m c) m ((xs.set j a).map (Value.int k)))):F P n e ⟨d,.store t x y,ty,ps,af,g⟩ w λ_ w'=>SH B w' L':=by
 obtain⟨mm,m0,m1,_⟩:=up.ix
 have Eh:w.ownsRow 0 el 1 (.slice (some ⟨b,0,none⟩) m c) m (xs.map (Value.int k)):=by obtain⟨_,O,R,hp,_⟩:=h;exact(hp mm _ m1).1
 obtain⟨o1,o2⟩:=Eh.stored j (.int k a)
 refine⟨undef,w.setCell ⟨b,j,none⟩ (.int k a),.inr ⟨λf hf=>?_,rfl⟩,Qj h up o2 (by rw[List.map_set];exact o1) λk hk=>.inl hk⟩
 have hc:=World.ownsRow.cellAt Eh j (by omega)
 have hfz:=World.ownsRow.frozenAt Eh j
 have hl:xs.length=m:=by have:=Eh.1;simpa using this
 rw[AG,fV (by omega)]at hc
 cases hq:P.info? t with
 |none=>rw[hq]at hT;cases hT
 |some i=>
  rw[hq]at hT
  have h4:i.size=1:=by simpa using hT
  rw[wS,Nat.mul_one]at hx
  have h5:(⟨b,j,none⟩:Addr).add 0=⟨b,j,none⟩:=rfl
  simp[execOp,hf.eval hx,hf.eval hy,Instr.storeAt,Instr.sureAddr,storeVar,sizeOf,typeInfo,hq,h4,Value.cells,storeCells,store,Sem.run,h5,hc,hfz]
theorem xA{a b:Int}(h:a=b):(a != b)=false:=by rw[bne_eq_false_iff_eq];exact h
theorem eT{a b:Int}(h:(a != b)=false):a=b:=by rwa [bne_eq_false_iff_eq]at h
theorem nF{k:IntKind}(xs:List Int):∀u∈xs.map (Value.int k),Value.oneCell' u=true:=λu hu=>by
 obtain⟨x,_,rfl⟩:=List.mem_map.1 hu;rfl
theorem lN{α:Type}{enc:α->List Value}(h:∀x,(enc x).all Value.oneCell'=true)(xs:List α):∀u∈xs.flatMap enc,Value.oneCell' u=true:=λu hu=>by
 obtain⟨x,_,hx⟩:=List.mem_flatMap.1 hu;exact List.all_eq_true.1 (h x) u hx
theorem SH.nil(el:TypeId)(sz:Nat)(h:SH B w L):SH B w (aV el sz (.slice none 0 0) 0 []::L):=
 h.new (Kp.refl _ _) (O:=λ_=>False) (R:=λ_=>False) ⟨World.ownsRow_nil _ _ _ _,λk=>by simp[Value.ownBlock],λ_ h=>h⟩ (λ_ h=>h.elim) (λ_ h=>h.elim)
theorem SH.MT(sz:Nat)(h:SH B w L):SH B w (bS sz (.slice none 0 0) 0 []::L):=
 h.new (Kp.refl _ _) (O:=λ_=>False) (R:=λ_=>False) ⟨⟨by simp,.inl ⟨rfl,rfl⟩⟩,λ_ h=>h,λk=>by simp[Value.ownBlock]⟩ (λ_ h=>h.elim) (λ_ h=>h.elim)
theorem fK{k:IntKind}(xs:List Int)(a:Int):xs.map (Value.int k)++[Value.int k a]=(xs++[a]).map (Value.int k):=by simp
theorem jM{α:Type}{enc:α->List Value}(xs:List α)(a:α):xs.flatMap enc++enc a=(xs++[a]).flatMap enc:=by simp
def D8(P:Program)(t:TypeId):Option (List Value×List (Nat×Nat)):=match P.info? t,P.underlying t with
 |some i,some (.struct fs)=>match i.zero with
  |some z=>(fs.toList.mapM λf=>(P.info? f.type).map λi=>(f.offset,i.size)).map λl=>(z.cells.toList,l)
  |none=>none
 |_,_=>none
theorem bd{t:TypeId}{parts:Array (Nat×Operand)}{zs:List Value}{pl:List (Nat×Nat)}{vs:List Value}(cs:List Value)(hb:D8 P t=some (zs,pl))(hp:uU n e (parts.toList.map (·.2))=some vs)
  (hc:Instr.fill (λi=>pl[i]?) zs.toArray ((parts.toList.map (·.1)).zip vs)=some cs.toArray):Y P n e ⟨d,.build t parts,ty,ps,af,g⟩ w (.agg cs.toArray) w:=λa ha=>by
 obtain⟨pv,KW⟩:∃pv,(parts.toList.map (·.1)).zip vs=pv:=⟨_,rfl⟩
 rw[KW]at hc
 have hpp:(parts.map λ(p:Nat×Operand)=>(p.1,a.eval p.2))=pv.toArray:=by
  apply Array.ext';rw[Array.toList_map,<- KW];exact Zz ha hp
 unfold D8 at hb
 cases hi:P.info? t with
 |none=>rw[hi]at hb;cases hb
 |some i=>
  cases hd:P.underlying t with
  |none=>rw[hi,hd]at hb;cases hb
  |some dd=>
   rw[hi,hd]at hb
   cases dd<;>try (cases hb;done)
   rename_i fs
   dsimp only at hb
   cases hz:i.zero with
   |none=>rw[hz]at hb;cases hb
   |some z=>
    rw[hz]at hb
    dsimp only at hb
    cases hm:(fs.toList.mapM λf=>(P.info? f.type).map λi=>(f.offset,i.size))with
    |none=>rw[hm]at hb;cases hb
    |some l2=>
     rw[hm]at hb
     simp only[Ze,Bs,Prod.mk.injEq]at hb
     obtain⟨e1,e2⟩:=hb
     subst e2
     have hmm:∀(fl:List Field) (l2:List (Nat×Nat)),(fl.mapM λf=>(P.info? f.type).map λi=>(f.offset,i.size))=some l2->(fl.mapM λf=>(do pure (f.offset,<- sizeOf f.type):Sem (Nat×Nat))).run P w=.ok l2 w:=by
      intro fl
      induction fl with
      |nil=>intro l2 h;simp only[List.mapM_nil,Option.pure_def,Bs]at h;rw[<- h];rfl
      |cons f fl ih=>
       intro l2 h
       rw[List.mapM_cons]at h
       cases hq:P.info? f.type with
       |none=>rw[hq]at h;cases h
       |some inf=>
        rw[hq]at h
        cases hr:(fl.mapM λf=>(P.info? f.type).map λi=>(f.offset,i.size))with
        |none=>rw[hr]at h;cases h
        |some l3=>
         rw[hr]at h
         simp only[Ze,Option.bind_eq_bind,Option.bind_some,Option.pure_def,Bs]at h
         have h0:(do pure (f.offset,<- sizeOf f.type):Sem (Nat×Nat)).run P w=.ok (f.offset,inf.size) w:=by simp[sizeOf,typeInfo,hq]
         rw[<- h,List.mapM_cons,Sem.run_bind,h0,Result.andThen_ok,Sem.run_bind,ih l3 hr]
         rfl
     have h1:=hmm fs.toList l2 hm
     have h2:(fs.mapM λf=>(do pure (f.offset,<- sizeOf f.type):Sem (Nat×Nat))).run P w=.ok l2.toArray w:=by
      rw[Array.mapM_eq_mapM_toList]
      change ((fs.toList.mapM λf=>(do pure (f.offset,<- sizeOf f.type):Sem (Nat×Nat))) >>= λl=>pure l.toArray:Sem _).run P w=_
      rw[Sem.run_bind,h1];rfl
     have aAl:(parts.map λ(i,x)=>(i,a.eval x))=pv.toArray:=hpp
     have e1':z.cells=zs.toArray:=by rw[<- e1]
     have h3:(zeroValue t).run P w=.ok z w:=by simp[zeroValue,typeInfo,hi,hz]
     have h4:(Instr.build t pv.toArray).run P w=.ok (.agg cs.toArray) w:=by
      unfold Instr.build
      rw[Sem.run_bind,h3,Result.andThen_ok,Sem.run_bind,run_underlying hd,Result.andThen_ok]
      dsimp only
      rw[Sem.run_bind,h2,Result.andThen_ok,e1']
      have Yz:Instr.fill (l2.toArray[·]?) zs.toArray pv=some cs.toArray:=by rw[<- hc];congr 1;funext j;simp
      simp only[Yz]
      rfl
     simp only[execOp,aAl,Sem.run_bind,h4,Result.andThen_ok]
     rfl
end Go.E
end
