/- Parts of a proof: Qd. -/
import Derived.Test.YtnhdmcipglnkfaaGreatW24
import Derived.Test.YtnhdmcipglnkfaaGreatW19
set_option linter.unusedVariables false
set_option linter.unusedSimpArgs false
set_option maxRecDepth 100000
set_option maxHeartbeats 4000000
section
namespace Go.Ct
def bJ(x:Node)(at_:Int)(h:Nat)(key:ByteArray)(v:Nat)(first:Int):Nat×List (Node×Int):=
 if 11<=aJ x.hash h then(11,[({kind:=6,hash:=h,aF:=gG ⟨x.key,x.value⟩ ⟨key,v⟩},0)])
 else(aJ x.hash h,[({kind:=4,hash:=h,key:=key,value:=v},0),(fX (slice x.hash (aJ x.hash h)) at_ (slice h (aJ x.hash h)) first,0)])
theorem tT(x:Node)(at_:Int)(h:Nat)(key:ByteArray)(v:Nat)(level gen first:Int):
  bT x at_ h key v level gen first=eZ h gen first (bJ x at_ h key v first).1 (((bJ x at_ h key v first).1:Int)-level).toNat (bJ x at_ h key v first).2:=by
 unfold bT bJ;dsimp only;split<;>rfl
theorem uE(h:Nat)(g f:Int):∀(j:Nat) (c:Int) (l:List (Node×Int)),eZ h g f c (j+1) l=eZ h g f c j l++[({kind:=2,gen:=g},f+(eZ h g f c j l).length -1),({kind:=3,aD:=Bm.cI 0 (slice h (c-j-1)),aA:=[f+(eZ h g f c j l).length -1+1]},0)]
 |0,c,l=>by simp[eZ]
 |j+1,c,l=>by
  rw[show eZ h g f c (j+1+1) l=eZ h g f (c-1) (j+1) _ from rfl,uE h g f j (c-1)]
  rw[show eZ h g f c (j+1) l=eZ h g f (c-1) j _ from rfl]
  rw[show c-((j+1:Nat):Int)-1=c-1-(j:Int)-1 by omega]
theorem Ze{x:Node}{at_:Int}{h:Nat}{key:ByteArray}{v:Nat}{level gen first:Int}{z:X}(hs:z.e.aC=false)(hf:first=if z.e.m<z.e.made.length then z.e.made.getD z.e.m 0 else(z.s.aG.length:Int)+3)(hm:z.e.m<=z.e.made.length):
  aX (nM x at_ h key v level gen) z=aX (gR (bT x at_ h key v level gen first) 0) z:=by
 have key':∀(n:Node) (i:Int),∃y,dB n i z=(y,some first):=λn i=>by
  unfold dB;rw[if_neg (by rw[hs];decide)]
  split
  ·rename_i h1
   rw[if_neg (by omega)]at hf
   exact⟨_,by rw[hf];rfl⟩
  ·rename_i h1
   rw[if_pos (by omega)]at hf
   exact⟨_,by rw[hf]⟩
 have hh:=uJ x at_ h key v level gen 0 first
 cases h0:bT x at_ h key v level gen 0 with
 |nil=>have:=qX x at_ h key v level gen 0;rw[h0]at this;simp at this
 |cons n l=>
  cases h1:bT x at_ h key v level gen first with
  |nil=>have:=qX x at_ h key v level gen first;rw[h1]at this;simp at this
  |cons n' l'=>
   rw[h0,h1]at hh
   obtain rfl:n=n':=by simpa using hh
   have e:nM x at_ h key v level gen=.alloc n.1 n.2 λf=>gR (bT x at_ h key v level gen f).tail f:=by unfold nM;rw[h0]
   rw[e]
   obtain⟨y,hy⟩:=key' n.1 n.2
   show iP (dB n.1 n.2 z) _=iP (dB n.1 n.2 z) _
   rw[hy]
   show aX (gR (bT x at_ h key v level gen first).tail first) y=aX (gR l' first) y
   rw[h1];rfl
theorem Ef{l:List (Node×Int)}{k:Nat}(hk:k<l.length)(r:Int):gR (l.drop k) r=.alloc (l.getD k ({},0)).1 (l.getD k ({},0)).2 λr=>gR (l.drop (k+1)) r:=by
 rw[qR hk,dI,fM hk];rfl
theorem QG{α β γ:Type}{f:α->γ}{g:β->γ}{l:List α}{m:List β}(h:l.map f=m.map g){i:Nat}(a:α)(b:β)(hi:i<m.length):f (l.getD i a)=g (m.getD i b):=by
 have h1:l.length=m.length:=by have:=congrArg List.length h;simpa using this
 have h2:=congrArg (λz=>z[i]?) h
 simp only[Fb,fM hi,fM (show i<l.length by omega),Tx,xF]at h2
 rw[dI,dI,fM hi,fM (show i<l.length by omega)];exact h2
theorem kH{α:Type}{l:List α}{i:Nat}(a:α)(hi:i<l.length):l.getD i a∈l:=by
 rw[dI,fM hi];exact wU hi
theorem MP{l:List (Node×Int)}{i:Nat}(hi:i<l.length):(l.map Prod.snd).getD i 0=(l.getD i ({},0)).2:=by
 rw[dI,dI,Fb,fM hi];rfl
end Go.Ct
namespace Go.E
open Go.Q9 Go.RowKit
variable{B w:World}{L:List As}
theorem SH.C9{b mb:Nat}{x:Ct.X}(h:SH B w L)(m:At L (XA b mb x)):∃p c,w.cell? ⟨mb,0,none⟩=some (.slice p (2+x.s.aG.length) c):=by
 obtain⟨O,R,hA⟩:=h.at_ m
 obtain⟨O1,R1,q,h1⟩:=Xa hA (i:=1) rfl
 obtain⟨O2,R2,h2⟩:=Xa h1 (i:=0) rfl
 obtain⟨O3,R3,h3⟩:=Xa h1 (i:=1) rfl
 have hl:=iC h2.1
 exact⟨q.pn,q.cn,by rw[<- hl];simp[World.cell?,h3.1]⟩
theorem SH.eJ{b mb:Nat}{x:Ct.X}{o:Nat}{v:Value}(h:SH B w L)(m:At L (XA b mb x))(hv:∀q,(vT mb x.e q)[o]?=some v):∃O R,(ce b o v).p w O R:=⟨λ_=>False,λk=>k=b,h.xc m hv,λ_ h=>h,λ_=>Iff.rfl⟩
theorem lF{b o:Nat}{v0 v1:Value}(h0:w.cell? ⟨b,o,none⟩=some v0)(h1:w.cell? ⟨b,o+1,none⟩=some v1):∀j v,[v0,v1][j]?=some v->w.cell? ⟨b,o+j,none⟩=some v:=λj v hj=>by
 match j with
 |0=>simp at hj;subst hj;exact h0
 |1=>simp at hj;subst hj;exact h1
 |j+2=>simp at hj
theorem SH.YH(h:SH B w L):SH B w (bE []::L):=
 h.new (Kp.refl _ _) (O:=λ_=>False) (R:=λ_=>False) ⟨λ_ h=>h,λ_ hz=>absurd hz List.not_mem_nil,λ_ h=>h.elim⟩ (λ_ h=>h.elim) (λ_ h=>h.elim)
theorem SH.VY{zs:List (Ct.Node×Lq)}{n:Ct.Node}{q:Lq}(h:SH B w (aM n q::bE zs::L)):SH B w (bE (zs++[(n,q)])::L):=
 SH.HU (SH.se (l:=[aY n q,cH n q]) h)
theorem SH.FM{zs:List (Ct.Node×Lq)}{n n':Ct.Node}{q q':Lq}(h:SH B w (aM n q::aM n' q'::bE zs::L)):SH B w (bE (zs++[(n,q),(n',q')])::L):=by
 have h1:=(h.fr (.c r0 (.c r1 .n))).VY
 have h2:=(h1.fr (.c r1 (.c r0 .n))).VY
 rw[Co]at h2
 exact h2
end Go.E
end
