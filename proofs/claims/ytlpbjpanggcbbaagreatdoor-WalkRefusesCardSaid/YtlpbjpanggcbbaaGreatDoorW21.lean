/- Parts of a proof: E15, Azh. -/
import Derived.Test.YtlpbjpanggcbbaaGreatDoorW20
import Derived.Deep.Upon
set_option linter.unusedVariables false
set_option linter.unusedSimpArgs false
set_option maxRecDepth 100000
set_option maxHeartbeats 4000000
section
namespace Go.E
open Go.RowKit
variable{B w:World}{L:List As}{P:Program}{n:Nat}{K:iG}{e:Tm}{ops:Array Oper}{l:List Oper}
variable{L':List As}{d:Option Tmp}{ty:TypeId}{ps:String}{af:Array Edge}{g:Option (Nat×Bool)}
def Zd(w:World)(e:TypeId)(sz:Nat)(v:Value)(n:Nat)(xs:List Value):Prop:=
 xs.length=n*sz/\((v=.slice none 0 0/\n=0)\/∃g off cap cur,v=.slice (some ⟨g,off,none⟩) n cap/\w.heap[g]?=some (.cells cur e (0,0))/\n<=cap/\cap<=maxLen/\off+cap*sz<=cur.size/\(cur.toList.drop off).take (n*sz)=xs)
def Cz(e:TypeId)(sz:Nat)(v:Value)(n:Nat)(xs:List Value):As where
 p w O R:=Zd w e sz v n xs/\(∀k,O k↔v.ownBlock=some k)/\∀k,¬R k
 loc {w w' O R} h _ hk:=by
  refine⟨⟨h.1.1,?_⟩,h.2⟩
  rcases h.1.2 with hn|⟨g,off,cap,cur,rfl,hg,rest⟩
  ·exact .inl hn
  ·exact .inr ⟨g,off,cap,cur,rfl,by rw[hk g (.inl ((h.2.1 g).2 rfl))];exact hg,rest⟩
 Ua {w O R k} h hk:=by
  rcases hk with hk|hk
  ·have hk:=(h.2.1 _).1 hk
   rcases h.1.2 with⟨rfl,_⟩|⟨g,off,cap,cur,rfl,hg,rest⟩
   ·cases hk
   ·injection hk with hk;subst hk;exact(Array.getElem?_eq_some_iff.1 hg).1
  ·exact absurd hk (h.2.2 _)
 Wu h _:=h.2.2 _
theorem TU{e:TypeId}{sz m:Nat}{v:Value}{xs:List Value}(h:w.ownsRow 0 e sz v m xs):Zd w e sz v m xs:=by
 refine⟨h.1,?_⟩
 rcases h.2 with hn|⟨g,cap,cur,rfl,hb,hg,h1,h2,h3,h4⟩
 ·exact .inl hn
 ·exact .inr ⟨g,0,cap,cur,rfl,hg,h1,h2,by omega,by simpa using h4⟩
theorem SH.VV{e:TypeId}{sz m:Nat}{v:Value}{xs:List Value}(h:SH B w (aU e sz v m xs::L)):SH B w (Cz e sz v m xs::L):=h.imp λO R hA=>⟨TU hA.1,hA.2⟩
theorem PX{e:TypeId}{sz m b o c:Nat}{xs:List Value}(h:Zd w e sz (.slice (some ⟨b,o,none⟩) m c) m xs):Rd w b o sz m xs:=by
 refine⟨h.1,λj u hu=>?_⟩
 rcases h.2 with⟨h1,_⟩|⟨g,off,cap,cur,h1,hg,h2,h3,h4,h5⟩
 ·cases h1
 ·injection h1 with h1 _ _;injection h1 with h1;injection h1 with h6 h7;subst h6 h7
  have hj:j<m*sz:=by have:=(List.getElem?_eq_some_iff.1 hu).1;rw[h.1]at this;exact this
  subst h5
  rw[List.getElem?_take_of_lt hj,KQ]at hu
  unfold World.cell?
  simp[hg,<- Array.getElem?_toList,hu]
theorem SH.wr{e:TypeId}{sz m b o c:Nat}{xs:List Value}(h:SH B w L)(m':At L (Cz e sz (.slice (some ⟨b,o,none⟩) m c) m xs)):Rd w b o sz m xs:=by
 obtain⟨_,_,h1⟩:=h.at_ m';exact PX h1.1
theorem SH.VI{e:TypeId}{sz m c:Nat}{p:Option Addr}{xs:List Value}(h:SH B w L)(m':At L (Cz e sz (.slice p m c) m xs)):m<=c:=by
 obtain⟨_,_,h1⟩:=h.at_ m'
 rcases h1.1.2 with⟨h1,h2⟩|⟨g,off,cap,cur,h1,hg,h2,h3,h4,h5⟩
 ·omega
 ·injection h1 with _ _ h1;omega
theorem SH.XB{e:TypeId}{sz m c:Nat}{p:Option Addr}{xs:List Value}(h:SH B w L)(m':At L (Cz e sz (.slice p m c) m xs))(hm:0<m):∃b o,p=some ⟨b,o,none⟩:=by
 obtain⟨_,_,h1⟩:=h.at_ m'
 rcases h1.1.2 with⟨h1,h2⟩|⟨g,off,cap,cur,h1,_⟩
 ·omega
 ·injection h1 with h1;exact⟨g,off,h1⟩
theorem SH.XC{e:TypeId}{sz m c k:Nat}{p:Option Addr}{xs:List Value}(h:SH B w (Cz e sz (.slice p m c) m xs::L))(hk:k<=m):SH B w (Cz e sz (.slice (Go.E.tl p c k sz) (m-k) (c-k)) (m-k) (xs.drop (k*sz))::L):=h.imp λO R hA=>by
 have hl:=hA.1.1
 rcases hA.1.2 with⟨h1,h2⟩|⟨g,off,cap,cur,h1,hg,h2,h3,h4,h5⟩
 ·injection h1 with h1 h6 h7;subst h1 h7
  obtain rfl:k=0:=by omega
  subst h2
  refine⟨⟨by simpa using hl,.inl ⟨by unfold Go.E.tl;simp,rfl⟩⟩,λj=>?_,hA.2.2⟩
  rw[hA.2.1 j];unfold Go.E.tl;simp
 ·injection h1 with h1 h6 h7;subst h1 h7
  have hms:(m-k)*sz=m*sz-k*sz:=Nat.sub_mul ..
  have hle:k*sz<=m*sz:=RF _ hk
  have hmc:m*sz<=c*sz:=RF _ h2
  by_cases hc:c=k
  ·have hm:m=k:=by omega
   refine⟨⟨by rw[zT,hl];omega,.inr ⟨g,off,c-k,cur,by unfold Go.E.tl;rw[if_pos hc],hg,by omega,by omega,by rw[hc,Nat.sub_self];omega,?_⟩⟩,λj=>?_,hA.2.2⟩
   ·rw[hm,Nat.sub_self,Nat.zero_mul,List.take_zero];exact(MA (by rw[zT,hl,hm];omega)).symm
   ·rw[hA.2.1 j];unfold Go.E.tl;rw[if_pos hc];simp[Value.ownBlock]
  ·have hcs:(c-k)*sz=c*sz-k*sz:=Nat.sub_mul ..
   refine⟨⟨by rw[zT,hl];omega,.inr ⟨g,off+k*sz,c-k,cur,by unfold Go.E.tl;rw[if_neg hc];simp[mP],hg,by omega,by omega,by omega,?_⟩⟩,λj=>?_,hA.2.2⟩
   ·subst h5
    rw[List.drop_take,Qb,<- hms]
   ·rw[hA.2.1 j];unfold Go.E.tl;rw[if_neg hc];simp[mP,Value.ownBlock]
theorem xK(w:World)(t tx ty e:TypeId)(i:TypeInfo)(ht:P.underlying t=some (.slice e))(hi:P.info? e=some i)(g off sLen sCap:Nat)(cur:Array Value)(hg:w.heap[g]?=some (.cells cur e (0,0)))(x:Value)(n:Nat)(news:List Value)(hs:Src P i.size tx x n news w)
  (hroom:sLen+n<=sCap) (hfit:off+sLen*i.size+news.length<=cur.size):
  (Builtin.append_ #[t,tx] ty #[.slice (some ⟨g,off,none⟩) sLen sCap,x]).run P w=.ok (.slice (some ⟨g,off,none⟩) (sLen+n) sCap) (w.setRow g (cur.toList.take (off+sLen*i.size)++news++cur.toList.drop (off+sLen*i.size+news.length)).toArray):=by
 have hst:=run_storeCells_at P g (off+sLen*i.size) e news 0 cur w hg (by simpa using hfit) hs.one
 simp only[QR]at hst
 rcases hs.kind with⟨e',hk⟩|hk<;>simp[Builtin.append_,run_underlying ht,run_underlying hk,sizeOf,typeInfo,hi,hs.len,hroom,hs.cells,Addr.add_lit,hst]
theorem CV{el:TypeId}{sz m m':Nat}{v v':Value}{xs xs':List Value}{w':World}(h:SH B w L)(u:sJ L L' (Cz el sz v m xs) (Cz el sz v' m' xs'))(hg:w.grownBy w' v.ownBlock)(ho:Zd w' el sz v' m' xs')(hn:∀k,v'.ownBlock=some k->v.ownBlock=some k\/w.heap.size<=k):SH B w' L':=
 h.step u λO R hA=>⟨λk=>v'.ownBlock=some k,λ_=>False,⟨ho,λ_=>Iff.rfl,λ_ h=>h⟩,⟨⟨hg.os,hg.tape,hg.output⟩,hg.size,λk hk hn=>hg.block k hk λe=>hn ((hA.2.1 k).2 e.symm)⟩,λk hk=>(hn k hk).imp (λh=>(hA.2.1 k).2 h) id,λ_ h=>h.elim⟩
theorem SK{t el:TypeId}{sz k b c:Nat}{news:List Value}(h:SH B w L)(m':At L (aU el sz (.slice (some ⟨b,0,none⟩) k c) k news))(ht:P.underlying t=some (.slice el))(h1:∀u∈news,Value.oneCell' u=true):Src P sz t (.slice (some ⟨b,0,none⟩) k c) k news w:=
 Src.ofSlice w ht _ k c news (h.ro m').1 (λj u hu=>by rw[mP];exact(h.ro m').2 j u hu) h1
theorem TE{t el:TypeId}{sz k c:Nat}{p:Option Addr}{news:List Value}(h:SH B w L)(m':At L (bV sz (.slice p k c) k news))(ht:P.underlying t=some (.slice el))(h1:∀u∈news,Value.oneCell' u=true):Src P sz t (.slice p k c) k news w:=by
 obtain⟨_,_,hA⟩:=h.at_ m'
 rcases hA.1.2 with⟨h2,h3⟩|⟨b,o,cap,h2,hb,h3,h4,h5⟩
 ·injection h2 with e1 e2 e3
  subst e1 e2 e3
  have hn:news=[]:=MA (by have:=hA.1.1;omega)
  subst hn
  exact Src.ofNil w ht 0
 ·injection h2 with e1 e2 e3
  subst e1
  exact Src.ofSlice w ht _ k c news hA.1.1 (λj u hu=>by rw[mP];exact h5 j u hu) h1
theorem WA{t el:TypeId}{ats:Array TypeId}{x y:Operand}{z v yv:Value}{sz bt k:Nat}{news:List Value}{L':Value->List As}(h:SH B w L)(mo:At L (Cz el sz v 0 []))(hs:Src P sz t yv k news w)(ht:P.underlying t=some (.slice el))(h0:ats=#[t,t])(hz:mR P el=some (z,sz,bt))(hzs:z.cells.size=sz)(hsz:0<sz)
  (hx:ev n e x=some v) (hy:ev n e y=some yv) (up:∀v',sJ L (L' v') (Cz el sz v 0 []) (Cz el sz v' k news)) (h63:k<=maxLen) (hb:k*bt<=140737488355328):
  F P n e ⟨d,.call ⟨.builtin .append,#[x,y],ats⟩,ty,ps,af,g⟩ w λv w'=>∃p c,v=.slice p k c/\SH B w' (L' v):=by
 subst h0
 obtain⟨i,g1,g2,g3,g4⟩:=pQ hz
 obtain⟨_,_,hA⟩:=h.at_ mo
 have hl:=hs.newsLen
 have hk9:((0+k:Nat):Int)<=9223372036854775807:=by unfold maxLen at h63;omega
 have key:∃v' w',(Builtin.append_ #[t,t] ty #[v,yv]).run P w=.ok v' w'/\Zd w' el sz v' k news/\w.grownBy w' v.ownBlock/\(∀q,v'.ownBlock=some q->v.ownBlock=some q\/w.heap.size<=q)/\∃p c,v'=.slice p k c:=by
  subst g3
  have grow:∀(base:Option Addr) (cap:Nat) (hv:v=.slice base 0 cap) (hf:(Builtin.firstCells i.size 0 (.slice base 0 cap)).run P w.drew=.ok #[] w.drew),cap<0+k->∃v' w',(Builtin.append_ #[t,t] ty #[v,yv]).run P w=.ok v' w'/\Zd w' el i.size v' k news/\w.grownBy w' v.ownBlock/\(∀q,v'.ownBlock=some q->v.ownBlock=some q\/w.heap.size<=q)/\∃p c,v'=.slice p k c:=by
   intro base cap hv hf hlt
   have hr:=run_append_grow_src (P:=P) w t t ty el i z ht g1 g2 base 0 cap [] hf yv k news hs hlt hk9 (growslice_fits hlt (by rw[g4,lC];exact hb))
   rw[hv]
   refine⟨_,_,hr,⟨hl,.inr ⟨w.heap.size,0,_,_,by rw[lC],heap_alloc_new w.drew _,?_,grownCap_le_maxLen w (0+k) cap el (by omega),?_,?_⟩⟩,⟨rfl,rfl,rfl,by simp,λq hq _=>heap_alloc_old (h:=hq) ..⟩,λq hq=>?_,_,_,by rw[lC]⟩
   ·have:=grownCap_ge w (0+k) cap el;omega
   ·have h5:=grownCap_ge w (0+k) cap el
    have h6:(grownCap w (0+k) cap el)*i.size=k*i.size+(grownCap w (0+k) cap el-(0+k))*i.size:=by rw[<- Nat.add_mul];congr 1;omega
    simp only[xE,Array.size_append,List.size_toArray,size_zeroCells,hzs,hl];omega
   ·simp only[xE,Array.toList_append,List.drop_zero];rw[<- hl];exact List.take_left
   ·simp[Value.ownBlock]at hq;exact .inr (by omega)
  rcases hA.1.2 with⟨hv,_⟩|⟨gg,off,cap,cur,hv,hg,h2,h3,h4,h5⟩
  ·by_cases hk0:k=0
   ·subst hk0
    have hn:news=[]:=MA (by rw[hl];omega)
    subst hn
    rw[hv]
    refine⟨.slice none 0 0,w,run_append_nothing (P:=P) w t t ty el i ht g1 none 0 0 (Fk _) yv hs,⟨by simp,.inl ⟨rfl,rfl⟩⟩,⟨rfl,rfl,rfl,Fk _,λ_ _ _=>rfl⟩,λq hq=>.inl hq,none,0,rfl⟩
   ·exact grow none 0 hv (run_firstCells_none w.drew i.size 0 0 0) (by omega)
  ·by_cases hroom:0+k<=cap
   ·have hkc:k*i.size<=cap*i.size:=RF _ (by omega)
    have hfit:off+0*i.size+news.length<=cur.size:=by rw[hl];omega
    have hr:=xK (P:=P) w t t ty el i ht g1 gg off 0 cap cur hg yv k news hs hroom hfit
    rw[hv]
    rw[Nat.zero_mul,QR]at hr hfit
    rw[lC]at hr
    refine⟨_,_,hr,⟨hl,.inr ⟨gg,off,cap,_,rfl,setRow_heap w gg cur _ el _ hg,by omega,h3,?_,?_⟩⟩,⟨rfl,rfl,rfl,by simp,λq _ hq=>setRow_other w gg q _ (λe=>hq (by simp[Value.ownBlock,e]))⟩,λq hq=>.inl hq,_,_,rfl⟩
    ·simp only[List.size_toArray,Xb,Bq,zT,Array.length_toList];omega
    ·have h6:(cur.toList.take off).length=off:=by rw[Bq,Array.length_toList];omega
     simp only[oD]
     rw[List.drop_append_of_le_length (by omega),Fh (by omega),xE,<- hl];exact List.take_left
   ·exact grow _ cap hv (run_firstCells_some (P:=P) w.drew i.size 0 ⟨gg,off,none⟩ 0 cap [] (by simp) (by simp)) (by omega)
 obtain⟨v',w',r1,r2,r3,r4,p,c,r5⟩:=key
 exact⟨v',w',.inl λa ha=>by simp[execOp,resolve,invoke,builtin,ha.eval hx,ha.eval hy,r1],p,c,r5,CV h (up v') r3 r2 r4⟩
end Go.E
end
section
namespace Go.Q9
open Go.Proofs.Tryz
open Go.E
theorem PB:KY prog 177=some ([.int .i64 0,.int .i64 0,.int .i64 0,.int .u64 0,.slice none 0 0,.int .u64 0,.string .empty,.int .u64 0,.slice none 0 0,.int .i64 0,.int .i64 0,.int .i64 0,.int .i64 0,.int .i64 0,.int .i64 0],[(0,14),(14,1)]):=by kernel_rfl
theorem SQ:KY prog 83=some ([.int .i64 0,↑false,↑false,.slice none 0 0,.slice none 0 0],[(0,2),(2,1),(3,1),(4,1)]):=by kernel_rfl
theorem kN:fo prog 177 0=some 0:=by kernel_rfl
theorem zO:fo prog 177 1=some 14:=by kernel_rfl
theorem KB:fo prog 45 5=some 5:=by kernel_rfl
theorem Di:fo prog 83 0=some 0:=by kernel_rfl
theorem Ji:fo prog 83 1=some 2:=by kernel_rfl
theorem jG:fo prog 83 2=some 3:=by kernel_rfl
theorem oB:fo prog 83 3=some 4:=by kernel_rfl
theorem AJ:fv prog 118 8=some (8,1,false):=by kernel_rfl
theorem yA:tA prog 36=true:=by kernel_rfl
theorem pX:tA prog 81=true:=by kernel_rfl
theorem vA:prog.underlying 81=some (.slice 177):=by kernel_rfl
theorem HX:mR prog 177=some (.agg [.int .i64 0,.int .i64 0,.int .i64 0,.int .u64 0,.slice none 0 0,.int .u64 0,.string .empty,.int .u64 0,.slice none 0 0,.int .i64 0,.int .i64 0,.int .i64 0,.int .i64 0,.int .i64 0,.int .i64 0].toArray,15,160):=by kernel_rfl
theorem Jk:(prog.info? 177).map (·.size)=some 15:=by kernel_rfl
theorem MM:(prog.info? 81).map (·.size)=some 1:=by kernel_rfl
end Go.Q9
end
