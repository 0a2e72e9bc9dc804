/- The library of this proof, part 3: an abstract interpreter of the loaded code, and its soundness. -/
import Derived.Test.YtachcambnjecnaaA2
import Derived.IntWalk

namespace Ax
open Go
variable {P:Program}{w w':World}{G G':aK}{β fI:List kO}{ρ:Operand->Value}{o:Oper}
theorem pM {st:aj}{bx:aS}{cO:Nat->Nat}(hI:Inv w G st)(hB:jg w G β bx)(hX:∀b,cO b+fj b β bx+bS b G.ls st<=1){id:Nat}{loc loc':Loc}{ob Fx:fh}{e:dK}{v:Value}
  (hl:G.ls[id]?=some loc) (eG:st[id]?=some ob) (hs:pF w G w' G') (IG:G'.ls=G.ls.set id loc') (qt:nC w' G' Fx loc') (ht:∀b p,G'.kg b=some p->b<w'.heap.size)
  (FY:∀b,b<w.heap.size->loc.iQ≠some b->dw w G w' G' b) (NG:w.heap.size<=w'.heap.size) (Im:w'.os=w.os) (uz:w'.output=w.output) (dc:jv w' G' β e v)
  (hc:∀b,cg b e v+gu b loc' Fx<=cO b+gu b loc ob+(if w.heap.size<=b then 1 else 0)):iz w G β st bx cO w' G' β (st.set id Fx) bx e v:=by
 have eF:∀b,loc.iQ=some b->gu b loc ob ≥ 1:=by
  intro b hb
  cases ob<;>simp[gu,hb]
 refine⟨hs,zK hI hs IG (λi l V2 b hi h1 h2 h3=>?_) qt ht,kX hB hs λb hb=>?_,dc,λb=>?_,λb hb aZ=>?_,NG,Im,uz⟩
 ·refine FY b ((hI.obj i V2 l h2 h1).held h3) λhb=>?_
  have h4:=eF b hb
  have h5:=FO b G.ls st i id l V2 loc ob hi h1 h2 hl eG
  have:=hX b
  omega
 ·refine FY b (hB.held hb) λkW=>?_
  have h4:=eF b kW
  have h5:=lC b G.ls st id loc ob hl eG
  have:=hX b
  omega
 ·have h1:=sA b G.ls st id loc ob loc' Fx hl eG
  have h2:=hc b
  rw[IG]
  omega
 ·refine FY b aZ λkW=>?_
  have h4:=eF b kW
  have h5:=lC b G.ls st id loc ob hl eG
  omega
theorem sx.flat {sz:Nat}{rows:List (List AV)}{loc:Loc}(h:sx w G sz rows loc):bV w G rows.flatten loc.vals.flatten/\(∀b,bM b rows.flatten loc.vals.flatten=eM b rows loc.vals)/\(∀r∈loc.vals,r.length=sz)/\
  ∀b off,(∀(i:Nat) xs (j:Nat) x,loc.vals[i]?=some xs->xs[j]?=some x->w.cell? ⟨b,off+(i*sz+j),none⟩=some x)->∀(k:Nat) x,loc.vals.flatten[k]?=some x->w.cell? ⟨b,off+k,none⟩=some x:=by
 have J8:∀r∈loc.vals,r.length=sz:=λr hr=>by
  obtain⟨i,hi,rfl⟩:=List.mem_iff_getElem.1 hr
  have n8:i<rows.length:=by rw[<-h.p6];exact hi
  rw[<-(h.qo i rows[i] loc.vals[i] (List.getElem?_eq_getElem n8) (List.getElem?_eq_getElem hi)).1]
  exact bZ.1 h.fit _ (List.getElem_mem n8)
 refine⟨qP rows loc.vals h.p6.symm h.qo,λb=>vY b rows loc.vals h.p6.symm λi r xs h1 h2=>(h.qo i r xs h1 h2).1,J8,λb off hc k x hx=>?_⟩
 obtain⟨i,j,r,rfl,e2,e3⟩:=mW loc.vals k x J8 hx
 exact hc i r j x e2 e3
theorem NH {st:aj}{bx:aS}{cO:Nat->Nat}(hI:Inv w G st)(hB:jg w G β bx){sz:Nat}{a:Option Addr}(rX:a.isSome=true) :
  ∃G',iz w G β st bx cO w G' β (st++[.rows 0 sz []]) bx (.val (.mu st.length 0)) (.slice a 0 0):=by
 have CA:∀(id:Nat) loc,G.ls[id]?=some loc->∃loc',(G.ls++[⟨a,0,0,sz,0,false,[]⟩])[id]?=some loc'/\loc.bP<=loc'.bP/\(loc.bP=loc'.bP\/loc.mp=true->loc'.hd=loc.hd):=λid loc h=>
  ⟨loc,by rw[List.getElem?_append_left (List.getElem?_eq_some_iff.1 h).1];exact h,Nat.le_refl _,λ_=>rfl⟩
 have hs:pF w G w ⟨G.ls++[⟨a,0,0,sz,0,false,[]⟩],G.kg⟩:=⟨λ_ _ h=>⟨rfl,h⟩,CA⟩
 refine⟨⟨G.ls++[⟨a,0,0,sz,0,false,[]⟩],G.kg⟩,hs,⟨by simp[hI.len],λid ob loc h1 h2=>?_,hI.kP⟩,kX hB hs λb _=>⟨rfl,rfl⟩,.mu _ _ _ ⟨a,0,0,sz,0,false,[]⟩ ⟨_,_,_,rfl⟩ ?_ (Nat.le_refl _) λ_=>rfl,λb=>?_,λb _ _=>⟨rfl,rfl⟩,Nat.le_refl _,rfl,rfl⟩
 ·by_cases Il:id<st.length
  ·rw[List.getElem?_append_left Il]at h1
   simp only at h2
   rw[List.getElem?_append_left (by rw[hI.len];exact Il)]at h2
   exact(hI.obj id ob loc h1 h2).iu hs λb _=>⟨rfl,rfl⟩
  ·rw[List.getElem?_append_right (by omega)]at h1
   simp only at h2
   rw[List.getElem?_append_right (by rw[hI.len];omega),hI.len]at h2
   have h0:id-st.length=0:=by have:=(List.getElem?_eq_some_iff.1 h1).1;simp at this;omega
   rw[h0]at h1 h2
   simp at h1 h2
   subst h1;subst h2
   exact⟨rfl,rfl,by simp[fits],by simp,rfl,rfl,rfl,λi r xs h=>by simp at h,.inl ⟨rfl,rfl,rX⟩⟩
 ·simp only
  rw[List.getElem?_append_right (by rw[hI.len];exact Nat.le_refl _),hI.len];simp
 ·simp only[cg,eH]
  rw[pG b _ _ _ _ hI.len]
  have h0:bS b [⟨a,0,0,sz,0,false,[]⟩] [.rows 0 sz []]=0:=by simp[bS,gu,Loc.iQ,eM]
  rw[h0];omega
structure V3 (P:Program)(t tx ty e:TypeId)(sz bytes:Nat)(x:Value)(n:Nat)(news:List Value)(w:World):Prop where
 newsLen:news.length=n*sz
 nothing:n=0->∀base fG jr,fG<=jr->(Builtin.append_ #[t,tx] ty #[.slice base fG jr,x]).run P w=.ok (.slice base fG jr) w
 room:∀(b off fG jr:Nat) (cur:Array Value) (e0:TypeId),w.heap[b]?=some (.cells cur e0 (0,0))->fG+n<=jr->off+jr*sz<=cur.size->
  (Builtin.append_ #[t,tx] ty #[.slice (some ⟨b,off,none⟩) fG jr,x]).run P w=.ok (.slice (some ⟨b,off,none⟩) (fG+n) jr) (w.setRow b (af cur.toList (off+fG*sz) news).toArray)
 new:∀(base:Option Addr) (fG jr:Nat) (olds:List Value),(Builtin.firstCells sz fG (.slice base fG jr)).run P w.drew=.ok olds.toArray w.drew->olds.length=fG*sz->jr<fG+n->(fG+n)*bytes<=140737488355328->
  ∃cap c,(Builtin.append_ #[t,tx] ty #[.slice base fG jr,x]).run P w=.ok (.slice (some ⟨w.heap.size,0,none⟩) (fG+n) cap) (w.drew.alloc (.cells c e))/\fG+n<=cap/\cap*sz<=c.size/\
   ∀(k:Nat) v,(olds++news)[k]?=some v->c[k]?=some v
theorem NI {t tx ty e:TypeId}{sz bytes:Nat}{i:TypeInfo}{z:Value}(h:II P t tx e sz bytes i z){x:Value}{n:Nat}{news:List Value}(hs:Go.Src P sz tx x n news w):V3 P t tx ty e sz bytes x n news w where
 newsLen:=hs.newsLen
 nothing:=λh0 base fG jr hle=>by
  subst h0
  have hn:news=[]:=List.eq_nil_of_length_eq_zero (by simpa using hs.newsLen)
  subst hn
  exact run_append_nothing w t tx ty e i h.ht h.hi base fG jr hle x (by rw[h.dL];exact hs)
 room:=λb off fG jr cur e0 hg h1 h2=>oI h b off fG jr cur e0 hg x n news hs h1 h2
 new:=λbase fG jr olds hold M1 hg hb=>oJ h base fG jr olds hold M1 x n news hs hg hb
theorem D7 (z:Array Value)(n sz:Nat)(hz:z.size=sz):(Builtin.zeroCells z n).toList=((Array.range (n*sz)).map (z[· % z.size]!)).toList:=by
 subst hz;rfl
theorem IJ {t tx ty e:TypeId}{sz bytes:Nat}{i:TypeInfo}{z:Value}(ht:P.underlying t=some (.slice e))(hk:∃k,P.underlying tx=some (.int k))(hi:P.info? e=some i)(hz:i.zero=some z)(dL:i.size=sz)(Si:i.bytes=bytes)
  (Nw:z.cells.size=sz) (pos:0<sz) (NC:0<bytes) {n:Int} (h0:0<=n) (hr:n*bytes<=140737488355328) (w:World) (kq:∀u∈(Builtin.zeroCells z.cells n.toNat).toList,u.oneCell'=true) :
  V3 P t tx ty e sz bytes (.int .i64 n) n.toNat (Builtin.zeroCells z.cells n.toNat).toList w:=by
 obtain⟨k,hk⟩:=hk
 subst dL;subst Si
 have hn:n<=140737488355328:=by
  have:n*1<=n*i.bytes:=Int.mul_le_mul_of_nonneg_left (by omega) (by omega)
  omega
 have hw:IntKind.i64.wrap n=n:=IntWalk.i64_in n ⟨by omega,by omega⟩
 have Sn:¬n<0:=by omega
 have So:¬(281474976710656<n*i.bytes):=by omega
 have hlen:(Builtin.zeroCells z.cells n.toNat).toList.length=n.toNat*i.size:=by rw[Array.length_toList,size_zeroCells,Nw]
 refine⟨hlen,λe0 base fG jr hle=>?_,λb off fG jr cur e0 hg h1 h2=>?_,λbase fG jr olds hold M1 hg hb=>?_⟩
 ·have D8:n=0:=by omega
  subst D8
  cases base<;>simp[Builtin.append_,run_underlying ht,run_underlying hk,Go.sizeOf,typeInfo,hi,asInt,asIntOf,hw,hle,storeCells]
 ·have hle:off+fG*i.size+n.toNat*i.size<=cur.size:=by
   have:(fG+n.toNat)*i.size<=jr*i.size:=Nat.mul_le_mul_right _ h1
   rw[Nat.add_mul]at this
   omega
  have eG:=fS (P:=P) b (off+fG*i.size) e0 _ cur w hg (by rw[hlen];exact hle) kq
  by_cases UT:n.toNat*i.size=0
  ·have D8:(Builtin.zeroCells z.cells n.toNat).toList=[]:=List.eq_nil_of_length_eq_zero (by rw[hlen,UT])
   rw[D8]at eG ⊢
   simp[Builtin.append_,run_underlying ht,run_underlying hk,Go.sizeOf,typeInfo,hi,asInt,asIntOf,hw,Sn,So,UT,h1,Addr.add_lit,eG]
  ·simp[Builtin.append_,run_underlying ht,run_underlying hk,Go.sizeOf,typeInfo,zeroValue,hi,hz,asInt,asIntOf,hw,Sn,So,UT,h1,Addr.add_lit,eG]
 ·have hn:¬(fG+n.toNat<=jr):=by omega
  have h63:¬(9223372036854775807<((fG:Int)+(n.toNat:Int))):=by have:=J9 hb NC;omega
  have aaH:¬(9223372036854775807<((fG:Int)+max n 0)):=by omega
  have h48:¬(281474976710656<Builtin.nextslicecap (fG+n.toNat) jr*i.bytes):=by have:=growslice_fits hg hb;omega
  refine⟨grownCap w (fG+n.toNat) jr e,(olds++(Builtin.zeroCells z.cells n.toNat).toList).toArray++Builtin.zeroCells z.cells (grownCap w (fG+n.toNat) jr e-(fG+n.toNat)),?_,grownCap_ge _ _ _ _,?_,λk v hv=>?_⟩
  ·by_cases UT:n.toNat*i.size=0
   ·have D8:(Builtin.zeroCells z.cells n.toNat).toList=[]:=List.eq_nil_of_length_eq_zero (by rw[hlen,UT])
    rw[D8]
    simp[Builtin.append_,run_underlying ht,run_underlying hk,Go.sizeOf,typeInfo,zeroValue,hi,hz,asInt,asIntOf,hw,Sn,So,hn,aaH,h48,UT,Question.forced,hold,newRow,grownCap]
   ·simp[Builtin.append_,run_underlying ht,run_underlying hk,Go.sizeOf,typeInfo,zeroValue,hi,hz,asInt,asIntOf,hw,Sn,So,hn,aaH,h48,UT,Question.forced,hold,newRow,grownCap]
    congr 2
    apply Array.ext'
    simp[List.append_assoc]
  ·have h1:=grownCap_ge w (fG+n.toNat) jr e
   rw[Array.size_append,size_zeroCells,Nw]
   simp only[List.size_toArray,List.length_append,M1,hlen]
   rw[<-Nat.add_mul,<-Nat.add_mul]
   exact Nat.mul_le_mul_right _ (by omega)
  ·have hk:=(List.getElem?_eq_some_iff.1 hv).1
   rw[Array.getElem?_append,if_pos (by simpa using hk)]
   simpa using hv
theorem NJ {t tx ty e:TypeId}{sz bytes:Nat}{st:aj}{bx:aS}(hI:Inv w G st)(hB:jg w G β bx){cO:Nat->Nat}(hX:∀b,cO b+fj b β bx+bS b G.ls st<=1)
  {s:AV} {vs vx:Value} (hs:aL w G s vs) {new:List (List AV)} {news:List Value} (dc:bV w G new.flatten news) (lY:V3 P t tx ty e sz bytes vx new.length news w) (gK:∀r∈new,AV.aH r=true) (hY:∀r∈new,AV.dj r=true)
  {wl aa:Nat} {bK:aj} {eI:aS} {r:dK} (ha:xE wl aa sz bytes s new st bx=some (r,bK,eI)) :
  ∃v w' G',(Builtin.append_ #[t,tx] ty #[vs,vx]).run P w=.ok v w'/\iz w G β st bx cO w' G' β bK eI r v:=by
 unfold xE at ha
 ·split at ha
  ·rename_i bY
   have D8:∀b xs,bM b new.flatten xs=0:=λb xs=>cU b _ _ ((cn _).2 λx hx=>by
    obtain⟨r,hr,hx⟩:=List.mem_flatten.1 hx
    exact(cn r).1 (hY r hr) x hx)
   have p8:new=[]->news=[]:=λh0=>by
    subst h0
    have:=dc.1;simp at this;exact List.eq_nil_of_length_eq_zero this.symm
   have fresh:∀base,(Builtin.firstCells sz 0 (.slice base 0 0)).run P w.drew=.ok ([]:List Value).toArray w.drew->new.length*bytes<=room->(new=[]->base.isSome=true)->
     ∃v w' G',(Builtin.append_ #[t,tx] ty #[.slice base 0 0,vx]).run P w=.ok v w'/\iz w G β st bx cO w' G' β (st++[.rows 0 sz new]) bx (.val (.mu st.length 0)) v:=by
    intro base hf hr hbs
    by_cases jH:new=[]
    ·have:=p8 jH
     subst this;subst jH
     have:=lY.nothing rfl base 0 0 (Nat.le_refl _)
     obtain⟨G',hA⟩:=NH (w:=w) (G:=G) (β:=β) (cO:=cO) (sz:=sz) (a:=base) hI hB (hbs rfl)
     exact⟨_,_,_,this,hA⟩
    ·have hn:0<new.length:=List.length_pos_iff.2 jH
     obtain⟨cap,c,e1,e2,e3,e4⟩:=lY.new base 0 0 [] hf (by simp) (by omega) (by simpa [room] using hr)
     simp only[Nat.zero_add,List.nil_append]at e1 e2 e4
     obtain⟨G',hA,_⟩:=sC (w':=w.drew.alloc (.cells c e)) (cO:=cO) hI hB rfl rfl rfl bY gK dc (by omega) e3 e2 e4 (λb=>by rw[D8];omega)
     exact⟨_,_,G',e1,hA⟩
   split at ha
   ·split at ha
    ·rename_i xK
     cases ha
     have h0:new=[]:=by simpa using xK
     have:=p8 h0
     subst this;subst h0
     cases hs
     have:=lY.nothing rfl none 0 0 (Nat.le_refl _)
     exact⟨_,_,_,this,iz.quiet hI hB (aL.U) λb=>by simp[cg,eH]⟩
    ·split at ha
     ·rename_i hr
      cases ha;cases hs
      exact fresh none (run_firstCells_none _ _ _ _ _) hr λh=>absurd h (by rename_i xK;simpa using xK)
     ·cases ha
   ·split at ha
    ·rename_i hr
     cases ha
     cases hs with
     |emp a=>exact fresh (some a) (by simp[Builtin.firstCells,loadCells,loadCellsFrom]) hr λ_=>rfl
    ·cases ha
   ·rename_i id bP
    split at ha
    ·rename_i v iI old eG
     split at ha
     ·rename_i hc
      simp only[Bool.and_eq_true,decide_eq_true_eq]at hc
      obtain⟨⟨⟨⟨rfl,rfl⟩,hr⟩,_⟩,_⟩:=hc
      cases ha
      obtain⟨loc,hl,yJ,xz,gn⟩:=hI.loc eG
      cases hs with
      |mu _ _ _ loc' hp nA Cr he=>
      rw[hl]at nA;cases nA
      have cw:=he (by omega)
      subst cw
      obtain⟨Fy,Sk,hfv,D9⟩:=gn.flat
      have CA:∀l':Loc,l'.bP=v+1->∀(i:Nat) l,G.ls[i]?=some l->∃Sp,(G.at id l').ls[i]?=some Sp/\l.bP<=Sp.bP/\(l.bP=Sp.bP\/l.mp=true->Sp.hd=l.hd):=λl' hv=>
       AG hl (by omega) λh=>by rcases h with h|h<;>simp_all<;>omega
      have Ry:∀l':Loc,(G.at id l').ls[id]?=some l':=λl'=>by
       simp only[aK.at];rw[List.getElem?_set,if_pos rfl,if_pos (List.getElem?_eq_some_iff.1 hl).1]
      by_cases jH:new=[]
      ·have:=p8 jH
       subst this;subst jH
       have hle:loc.len<=loc.cap:=by
        rcases gn.nB with⟨h0,h1,_⟩|⟨b,off,c,e',rQ,eJ,eu,dL,hlen,gq,cW⟩
        ·rw[gn.len,h1];simp
        ·rw[gn.len];exact hlen
       have:=lY.nothing rfl loc.a loc.len loc.cap hle
       have zo:pF w G w (G.at id { loc with bP:=v+1 }):=⟨λ_ _ h=>⟨rfl,h⟩,CA _ rfl⟩
       refine⟨_,_,G.at id { loc with bP:=v+1 },this,pM hI hB hX hl eG zo rfl ?_ hI.kP (λb _ _=>⟨rfl,rfl⟩) (Nat.le_refl _) rfl rfl (.mu _ _ _ { loc with bP:=v+1 } ⟨_,_,_,rfl⟩ (Ry _) (Nat.le_refl _) λ_=>rfl) λb=>?_⟩
       ·have:=(nC.iu (w':=w) (G':=G.at id { loc with bP:=v+1 }) (show nC w G (.rows v iI old) loc from⟨yJ,xz,gn⟩) zo λb _=>⟨rfl,rfl⟩)
        obtain⟨_,_,h3⟩:=this
        rw[List.append_nil]
        exact⟨yJ,rfl,h3.fit,h3.zG,h3.len,h3.size,h3.p6,h3.qo,h3.nB⟩
       ·simp only[cg,eH,List.append_nil]
        show 0+gu b loc (.rows v iI old)<=cO b+gu b loc (.rows v iI old)+_
        omega
      ·have hn:0<new.length:=List.length_pos_iff.2 jH
       have iN:=sF gn.fit bY
       have pL:(old++new).flatten=old.flatten++new.flatten:=List.flatten_append
       have M1:loc.vals.flatten.length=old.length*iI:=by rw[<-Fy.1];exact eA old (bZ.1 gn.fit)
       have M3:news.length=new.length*iI:=lY.newsLen
       by_cases ki:old.length+new.length<=loc.cap
       ·rcases gn.nB with⟨h0,h1,_⟩|⟨b,off,c,e',rQ,eJ,eu,dL,hlen,gq,cW⟩
        ·omega
        have hle:off+old.length*iI+news.length<=c.size:=by
         rw[M3]
         have:(old.length+new.length)*iI<=loc.cap*iI:=Nat.mul_le_mul_right _ ki
         rw[Nat.add_mul]at this
         omega
        have e1:=lY.room b off old.length loc.cap c e' eu ki dL
        rw[rQ,gn.len]
        have aaI:=CA ⟨some ⟨b,off,none⟩,loc.cap,(old++new).length,iI,v+1,false,oE iI (old++new).length (loc.vals.flatten++news)⟩ rfl
        have hW:Wr w G (w.setRow b (af c.toList (off+old.length*iI) news).toArray) ⟨(G.at id ⟨some ⟨b,off,none⟩,loc.cap,(old++new).length,iI,v+1,false,oE iI (old++new).length (loc.vals.flatten++news)⟩).ls,λb'=>if b'=b then some 0 else G.kg b'⟩ b:=
         AH eu hle gq (Nat.zero_le _) (Nat.le_refl _) aaI
        have eF:loc.iQ=some b:=by unfold Loc.iQ;rw[if_neg (by omega),rQ];rfl
        refine⟨_,_,⟨(G.at id ⟨some ⟨b,off,none⟩,loc.cap,(old++new).length,iI,v+1,false,oE iI (old++new).length (loc.vals.flatten++news)⟩).ls,λb'=>if b'=b then some 0 else G.kg b'⟩,e1,?_⟩
        refine pM hI hB hX hl eG hW.iu rfl ⟨rfl,rfl,lE (b:=b) (off:=off) (c:=(af c.toList (off+old.length*iI) news).toArray) (e:=e') (xs:=loc.vals.flatten++news) iN (mL gn.zG gK) ?_ rfl rfl rfl rfl eJ (setRow_heap w b c _ e' (0,0) eu) (by rw[List.size_toArray,cZ];simpa using dL) (by simpa using ki) (by simp) λk x hk=>?_⟩
         (hW.kP hI) (λb' _ kW=>hW.iy λe=>kW (by rw[eF,e])) (by simp) rfl rfl (.mu _ _ _ _ ⟨_,_,_,rfl⟩ (Ry _) (Nat.le_refl _) λ_=>by simp) λb'=>?_
        ·rw[pL]
         refine(Fy.mono hW.iu λb' kW=>hW.iy λe=>?_).append (dc.mono hW.iu λb' kW=>by rw[D8]at kW;omega)
         subst e
         rw[Sk]at kW
         have h1:=hX b'
         have h2:=lC b' G.ls st id loc _ hl eG
         simp only[gu,eF,if_true]at h2
         omega
        ·rw[pK eu hle]
         by_cases FZ:k<loc.vals.flatten.length
         ·rw[List.getElem?_append_left FZ]at hk
          rw[if_neg (by omega)]
          exact D9 b off cW k x hk
         ·rw[List.getElem?_append_right (by omega)]at hk
          have aZ:=(List.getElem?_eq_some_iff.1 hk).1
          rw[if_pos (by omega),show off+k-(off+old.length*iI)=k-loc.vals.flatten.length by omega]
          exact hk
        ·have F0:(⟨some ⟨b,off,none⟩,loc.cap,(old++new).length,iI,v+1,false,oE iI (old++new).length (loc.vals.flatten++news)⟩:Loc).iQ=loc.iQ:=by
          rw[eF];unfold Loc.iQ;rw[if_neg (show ¬loc.cap=0 by omega)];rfl
         simp only[cg,eH,gu]
         rw[F0,oF b' (old++new) _ (bZ.1 iN) (by rw[pL,List.length_append,List.length_append,Fy.1,dc.1]),pL,eL b' _ _ _ _ Fy.1,D8,Sk]
         omega
       ·have hf:(Builtin.firstCells iI loc.len (.slice loc.a loc.len loc.cap)).run P w.drew=.ok loc.vals.flatten.toArray w.drew:=by
         rcases gn.nB with⟨h0,h1,_⟩|⟨b,off,c,e',rQ,eJ,eu,dL,hlen,gq,cW⟩
         ·have:loc.vals=[]:=by
           have:=gn.p6;rw[h1]at this;exact List.eq_nil_of_length_eq_zero (by simpa using this)
          rw[gn.len,h1,this]
          cases loc.a<;>simp[Builtin.firstCells,loadCells,loadCellsFrom]
         ·rw[rQ,gn.len]
          exact run_firstCells_some w.drew iI old.length ⟨b,off,none⟩ old.length loc.cap _ M1 (λj v hj=>by rw[jO,CZ];exact D9 b off cW j v hj)
        obtain⟨LA,c,e1,e2,e3,e4⟩:=lY.new loc.a loc.len loc.cap loc.vals.flatten hf (by rw[M1,gn.len]) (by rw[gn.len];omega) (by rw[gn.len];exact hr)
        rw[gn.len,<-List.length_append]at e2
        have hcp:0<LA:=by rw[List.length_append]at e2;omega
        have hw:(w.drew.alloc (.cells c e)).heap=w.heap.push (.cells c e):=rfl
        have hlN:(G.new w.heap.size (some 0) []).ls[id]?=some loc:=by simp only[aK.new,List.append_nil];exact hl
        have zo:pF w G (w.drew.alloc (.cells c e)) ((G.new w.heap.size (some 0) []).at id ⟨some ⟨w.heap.size,0,none⟩,LA,(old++new).length,iI,v+1,false,oE iI (old++new).length (loc.vals.flatten++news)⟩):=
         (pH hw (some 0) []).trans (IF hlN (by simp;omega) λh=>by rcases h with h|h<;>simp_all<;>omega)
        refine⟨_,_,_,e1,pM hI hB hX hl eG zo (loc':=⟨some ⟨w.heap.size,0,none⟩,LA,(old++new).length,iI,v+1,false,oE iI (old++new).length (loc.vals.flatten++news)⟩) (by simp only[aK.at,aK.new,List.append_nil]) ⟨rfl,rfl,lE (b:=w.heap.size) (off:=0) (c:=c) (e:=e) (xs:=loc.vals.flatten++news) iN (mL gn.zG gK) ?_ rfl rfl rfl rfl hcp (oG hw) (by simpa using e3) e2 (by simp[aK.at,aK.new]) λk x hk=>?_⟩
         (λb p hp=>?_) (λb hb _=>?_) (by rw[hw];simp) rfl rfl (.mu _ _ _ _ ⟨_,_,_,rfl⟩ (by simp only[aK.at];rw[List.getElem?_set,if_pos rfl,if_pos (List.getElem?_eq_some_iff.1 hlN).1]) (Nat.le_refl _) λ_=>by simp[gn.len]) λb'=>?_⟩
        ·rw[pL]
         exact(Fy.mono zo λb' kW=>fP (G:=G) hw (some 0) [] (Fy.held kW)).append (dc.mono zo λb' kW=>by rw[D8]at kW;omega)
        ·rw[Nat.zero_add];exact AD hw (e4 k x hk)
        ·simp only[aK.at,aK.new]at hp
         rw[hw,Array.size_push]
         split at hp
         ·omega
         ·have:=hI.kP b p hp;omega
        ·exact fP (G:=G) hw (some 0) [] hb
        ·have F0:(⟨some ⟨w.heap.size,0,none⟩,LA,(old++new).length,iI,v+1,false,oE iI (old++new).length (loc.vals.flatten++news)⟩:Loc).iQ=some w.heap.size:=by
          unfold Loc.iQ;rw[if_neg (show ¬LA=0 by omega)];rfl
         simp only[cg,eH,gu]
         rw[F0,oF b' (old++new) _ (bZ.1 iN) (by rw[pL,List.length_append,List.length_append,Fy.1,dc.1]),pL,eL b' _ _ _ _ Fy.1,D8,Sk]
         simp only[Option.some.injEq]
         by_cases hb:w.heap.size=b'
         ·subst hb;rw[if_pos (Nat.le_refl _)];simp;omega
         ·rw[if_neg hb];omega
     ·cases ha
    ·cases ha
   ·cases ha
  ·cases ha
theorem LD {t tx ty e:TypeId}{sz bytes:Nat}{i:TypeInfo}{z:Value}(h:II P t tx e sz bytes i z){st:aj}{bx:aS}(hI:Inv w G st)(hB:jg w G β bx){cO:Nat->Nat}(hX:∀b,cO b+fj b β bx+bS b G.ls st<=1)
  {s x:AV} {vs vx:Value} (hs:aL w G s vs) (hx:aL w G x vx) {wl aa:Nat} {bK:aj} {eI:aS} {r:dK} (ha:aI wl aa (.lu sz bytes) [.val s,.val x] st bx=some (r,bK,eI)) :
  ∃v w' G',(Builtin.append_ #[t,tx] ty #[vs,vx]).run P w=.ok v w'/\iz w G β st bx cO w' G' β bK eI r v:=by
 simp only[aI]at ha
 split at ha
 ·cases ha
 ·rename_i new qt
  by_cases bY:fits sz new=true
  ·obtain⟨news,dc,lY,gK,hY,_⟩:=tP hI hx qt bY h.kind
   exact NJ hI hB hX hs dc (NI h lY) gK hY ha
  ·unfold xE at ha
   rw[if_neg bY]at ha
   cases ha
theorem LF {t tx ty e:TypeId}{sz bytes:Nat}(ht:P.underlying t=some (.slice e))(hk:∃k,P.underlying tx=some (.int k))(dL:ck P e sz=true)(Si:mK P e bytes=true){zero:List AV}(hz:me P e zero=true)(pos:0<sz)(NC:0<bytes)
  {st:aj} {bx:aS} (hI:Inv w G st) (hB:jg w G β bx) {cO:Nat->Nat} (hX:∀b,cO b+fj b β bx+bS b G.ls st<=1)
  {s x:AV} {vs vx:Value} (hs:aL w G s vs) (hx:aL w G x vx) {wl aa:Nat} {bK:aj} {eI:aS} {r:dK} (ha:aI wl aa (.tG sz bytes zero) [.val s,.val x] st bx=some (r,bK,eI)) :
  ∃v w' G',(Builtin.append_ #[t,tx] ty #[vs,vx]).run P w=.ok v w'/\iz w G β st bx cO w' G' β bK eI r v:=by
 simp only[aI]at ha
 split at ha
 ·rename_i n heq
  simp only[List.cons.injEq,dK.val.injEq,and_true]at heq
  obtain⟨rfl,rfl⟩:=heq
  split at ha
  ·rename_i hc
   obtain⟨h0,hr,J7,mU⟩:=hc
   obtain⟨i,z,hi,Nx,lX,FJ,M0⟩:=j3 hz w G
   obtain⟨i',n8,Ct,_⟩:=jM dL
   rw[hi]at n8;cases n8
   have hb:i.bytes=bytes:=by simpa [mK,hi] using Si
   have Nw:z.cells.size=sz:=by rw[<-J7,lX.1];simp
   have hrz:=xI (n:=n.toNat) lX J7 pos
   rw[<-D7 z.cells n.toNat sz Nw]at hrz
   have hR:=IJ (ty:=ty) ht hk hi Nx Ct hb Nw pos NC h0 (by simpa [room] using hr) w (hrz.R5 (bV.CB λr hr=>by rw[List.eq_of_mem_replicate hr];exact M0))
   cases hx
   rw[show n.toNat=(List.replicate n.toNat zero).length by simp]at hR
   exact NJ hI hB hX hs hrz (by simpa using hR) (λr hr=>by rw[List.eq_of_mem_replicate hr];exact M0) (λr hr=>by rw[List.eq_of_mem_replicate hr];exact(cn zero).2 λc hc=>(FJ c hc).1) ha
  ·cases ha
 ·cases ha
end Ax
namespace Ax
open Go
variable {P:Program}{w w':World}{G G':aK}{β fI:List kO}{ρ:Operand->Value}{o:Oper}
theorem vZ {st:aj}(hI:Inv w G st){id bP i k sz:Nat}{v:Value}{rows:List (List AV)}{r:List AV}(hp:aL w G (.ptr id bP i k) v)(eG:st[id]?=some (.rows bP sz rows))(hr:rows[i]?=some r) :
  ∃loc b off c e xs,G.ls[id]?=some loc/\loc.mp=false/\loc.bP=bP/\sx w G sz rows loc/\v=.pointer (some ⟨b,off+(i*sz+k),none⟩)/\loc.a=some ⟨b,off,none⟩/\0<loc.cap/\loc.iQ=some b/\
   w.heap[b]?=some (.cells c e (0,0))/\off+loc.cap*sz<=c.size/\rows.length<=loc.cap/\G.kg b=some 0/\loc.vals[i]?=some xs/\bV w G r xs/\
   ∀(i:Nat) xs (j:Nat) x,loc.vals[i]?=some xs->xs[j]?=some x->w.cell? ⟨b,off+(i*sz+j),none⟩=some x:=by
 obtain⟨loc,hl,yJ,xz,gn⟩:=hI.loc eG
 cases hp with
 |ptr _ _ _ _ _ loc' hpp nA hv he=>
 rw[hl]at nA;cases nA
 obtain⟨a,rQ,rfl⟩:=he xz.symm
 rcases gn.nB with⟨_,p8,_⟩|⟨b,off,c,e',IA,eJ,eu,hle,hlen,gq,cW⟩
 ·subst p8;simp at hr
 ·rw[IA]at rQ;cases rQ
  have hi:i<loc.vals.length:=by rw[gn.p6];exact(List.getElem?_eq_some_iff.1 hr).1
  have hv:=List.getElem?_eq_getElem hi
  exact⟨loc,b,off,c,e',loc.vals[i],hl,yJ,xz,gn,by rw[gn.size],IA,eJ,by unfold Loc.iQ;rw[if_neg (by omega),IA];rfl,eu,hle,hlen,gq,hv,gn.qo i r _ hr hv,cW⟩
theorem iT {as vs:List AV}(h:AV.aH as=true)(k:AV.aH vs=true){n:Nat}(hn:n+vs.length<=as.length):AV.aH (af as n vs)=true:=by
 rw[iS _ _ _ hn]
 simp only[AV.aH,List.all_eq_true,List.mem_append]at *
 intro x hx
 rcases hx with (hx|hx)|hx
 ·exact h x (List.mem_of_mem_take hx)
 ·exact k x hx
 ·exact h x (List.mem_of_mem_drop hx)
theorem Sq {t:TypeId}{x y:Operand}{n:Nat}(ho:o.op=.store t x y)(hn:ck P t n=true){st:aj}{bx:aS}(hI:Inv w G st)(hB:jg w G β bx){cO:Nat->Nat}(hX:∀b,cO b+fj b β bx+bS b G.ls st<=1)
  {p v:AV} (hp:aL w G p (ρ x)) (hv:aL w G v (ρ y)) (nt:∀b,eH b v (ρ y)<=cO b) {wl aa:Nat} {bK:aj} {eI:aS} {r:dK} (ha:aI wl aa (.store n) [.val p,.val v] st bx=some (r,bK,eI)) :
  ∃w' G',(execOp ρ o).run P w=.ok .skip w'/\iz w G β st bx cO w' G' β bK eI r undef:=by
 simp only[aI]at ha
 split at ha
 ·rename_i jk
  simp only[Bool.and_eq_true,decide_eq_true_eq]at jk
  obtain⟨Sr,CC⟩:=jk
  split at ha
  ·rename_i kV hw
   cases ha
   unfold dz at hw
   split at hw
   ·rename_i id bP i k
    split at hw
    ·rename_i ve sz rows eG
     split at hw
     ·rename_i D3
      simp only[Bool.and_eq_true,decide_eq_true_eq]at D3
      obtain⟨rfl,_⟩:=D3
      split at hw
      ·rename_i row cP
       split at hw
       ·rename_i bY
        cases hw
        obtain⟨loc,b,off,c,e,xs,hl,yJ,xz,gn,F1,rQ,eJ,eF,eu,hle,hlen,gq,IK,kj,cW⟩:=vZ hI hp eG cP
        obtain⟨vK,J1⟩:=hv.cells
        have qO:row.length=sz:=bZ.1 gn.fit row (cD cP)
        have hxl:xs.length=sz:=by rw[<-kj.1];exact qO
        have hi:i<rows.length:=(List.getElem?_eq_some_iff.1 cP).1
        have Rz:(ρ y).cells.toList.length=v.cells.length:=vK.1.symm
        have NB:=vK.R5 CC
        have IL:off+(i*sz+k)+(ρ y).cells.toList.length<=c.size:=by
         have h1:(i+1)*sz<=loc.cap*sz:=Nat.mul_le_mul_right _ (by omega)
         rw[Nat.succ_mul]at h1
         omega
        have zp:=fS (P:=P) b (off+(i*sz+k)) e (ρ y).cells.toList c w eu IL NB
        have CA:=AG (loc':={ loc with vals:=loc.vals.set i (af xs k (ρ y).cells.toList) }) hl (Nat.le_refl _) λ_=>rfl
        have hW:Wr w G (w.setRow b (af c.toList (off+(i*sz+k)) (ρ y).cells.toList).toArray) ⟨(G.at id { loc with vals:=loc.vals.set i (af xs k (ρ y).cells.toList) }).ls,λb'=>if b'=b then some 0 else G.kg b'⟩ b:=
         AH eu IL gq (Nat.zero_le _) (Nat.le_refl _) CA
        have kq:cO b=0/\eM b rows loc.vals=0:=by
         have h1:=hX b
         have h2:=lC b G.ls st id loc _ hl eG
         simp only[gu,eF,if_true]at h2
         omega
        refine⟨_,⟨(G.at id { loc with vals:=loc.vals.set i (af xs k (ρ y).cells.toList) }).ls,λb'=>if b'=b then some 0 else G.kg b'⟩,?_,pM hI hB hX hl eG hW.iu rfl ⟨yJ,xz,?_⟩ (hW.kP hI) (λb' _ kW=>hW.iy λe=>kW (by rw[eF,e])) (by simp) rfl rfl trivial λb'=>?_⟩
        ·have dL:(ρ y).cells.size=n:=by rw[<-Sr,vK.1];simp
         simp only[execOp,ho,F1,Sem.run_bind,Instr.storeAt,Instr.sureAddr,Sem.run_pure,Result.andThen_ok,storeVar,dn hn,dL,ne_eq,not_true_eq_false,if_false,zp]
        ·have aaJ:bV (w.setRow b (af c.toList (off+(i*sz+k)) (ρ y).cells.toList).toArray) ⟨(G.at id { loc with vals:=loc.vals.set i (af xs k (ρ y).cells.toList) }).ls,λb'=>if b'=b then some 0 else G.kg b'⟩ v.cells (ρ y).cells.toList:=
          vK.mono hW.iu λb' kW=>hW.iy λe=>by
           subst e
           rw[J1]at kW
           have:=nt b'
           omega
         have hold:∀(i':Nat) r' Io,rows[i']?=some r'->loc.vals[i']?=some Io->bV (w.setRow b (af c.toList (off+(i*sz+k)) (ρ y).cells.toList).toArray) ⟨(G.at id { loc with vals:=loc.vals.set i (af xs k (ρ y).cells.toList) }).ls,λb'=>if b'=b then some 0 else G.kg b'⟩ r' Io:=λi' r' Io h1 h2=>
          (gn.qo i' r' Io h1 h2).mono hW.iu λb' kW=>hW.iy λe=>by
           subst e
           have:=tO b' rows loc.vals i' r' Io h1 h2
           omega
         refine⟨bZ.2 λr' uA=>?_,λr' uA=>?_,by simp[gn.len],gn.size,by simp[gn.p6],λi' r' Io h1 h2=>?_,.inr ⟨b,off,_,e,rQ,eJ,setRow_heap w b c _ e (0,0) eu,by rw[List.size_toArray,cZ];simpa using hle,by simpa using hlen,by simp,λi' Io j z h1 h2=>?_⟩⟩
         ·rcases List.mem_or_eq_of_mem_set uA with h|h
          ·exact bZ.1 gn.fit r' h
          ·rw[h,cZ];exact qO
         ·rcases List.mem_or_eq_of_mem_set uA with h|h
          ·exact gn.zG r' h
          ·rw[h];exact iT (gn.zG row (cD cP)) CC bY
         ·simp only at h2
          rw[List.getElem?_set]at h1 h2
          by_cases IM:i=i'
          ·subst IM
           rw[if_pos rfl,if_pos hi]at h1
           rw[if_pos rfl,if_pos (List.getElem?_eq_some_iff.1 IK).1]at h2
           cases h1;cases h2
           exact(hold i row xs cP IK).af aaJ bY
          ·rw[if_neg IM]at h1 h2
           exact hold i' r' Io h1 h2
         ·simp only at h1
          rw[pK eu IL]
          rw[List.getElem?_set]at h1
          by_cases IM:i=i'
          ·subst IM
           rw[if_pos rfl]at h1
           split at h1
           ·cases h1
            rw[iw _ _ _ _ (by rw[Rz,hxl,<-qO];exact bY)]at h2
            split at h2
            ·rename_i hj
             rw[if_pos (by omega),show off+(i*sz+j)-(off+(i*sz+k))=j-k by omega]
             exact h2
            ·rename_i hj
             rw[if_neg (by omega)]
             exact cW i xs j z IK h2
           ·cases h1
          ·rw[if_neg IM]at h1
           have hj:j<sz:=by
            have h3:=(List.getElem?_eq_some_iff.1 h2).1
            have h4:=gn.flat.2.2.1 Io (cD h1)
            omega
           have:¬(off+(i*sz+k)<=off+(i'*sz+j)/\off+(i'*sz+j)<off+(i*sz+k)+(ρ y).cells.toList.length):=by
            rcases Nat.lt_or_gt_of_ne IM with aZ|aZ
            ·have h5:(i+1)*sz<=i'*sz:=Nat.mul_le_mul_right _ aZ
             rw[Nat.succ_mul]at h5
             omega
            ·have h5:(i'+1)*sz<=i*sz:=Nat.mul_le_mul_right _ aZ
             rw[Nat.succ_mul]at h5
             omega
           rw[if_neg this]
           exact cW i' Io j z h1 h2
        ·have h1:=qp b' rows loc.vals i row xs (af row k v.cells) (af xs k (ρ y).cells.toList) cP IK
         have h2:=oC b' row v.cells xs (ρ y).cells.toList k kj.1 vK.1 bY
         have h3:=nt b'
         rw[J1]at h2
         have hb:(if ({ loc with vals:=loc.vals.set i (af xs k (ρ y).cells.toList) }:Loc).iQ=some b' then 1 else 0)=(if loc.iQ=some b' then 1 else 0):=rfl
         simp only[cg,gu]
         rw[hb]
         omega
       ·cases hw
      ·cases hw
     ·cases hw
    ·cases hw
   ·cases hw
  ·cases ha
 ·cases ha
theorem aL.hJ {a:AV}{v:Value}(h:aL w G a v):aL w G a.hJ v:=by
 cases h with
 |own sz rows a cap nS eJ bY hY mU tH hc hr gq eF=>exact .gone _ rfl
 |raw sz rows a cap nS eJ bY hY mU tH hc hr gq eF=>exact .gone _ rfl
 |agg cs vs hl h=>exact .agg cs vs hl h
 |fm cs vs hl h=>exact .fm cs vs hl h
 |undef=>exact .undef
 |gone v h=>exact .gone v h
 |bool b=>exact .bool b
 |int k n=>exact .int k n
 |str l s h=>exact .str l s h
 |dY=>exact .dY
 |U=>exact .U
 |eX=>exact .eX
 |gD=>exact .gD
 |jj=>exact .jj
 |cN sz rows a cap nS eJ bY hY mU tH hc hr=>exact .cN sz rows a cap nS eJ bY hY mU tH hc hr
 |emp a=>exact .emp a
 |mu id bP v loc hp hl hv he=>exact .mu id bP v loc hp hl hv he
 |ptr id bP i k v loc hp hl hv he=>exact .ptr id bP i k v loc hp hl hv he
 |nJ sz rows i k a cap hl=>exact .nJ sz rows i k a cap hl
 |map id loc b hl hm hb=>exact .map id loc b hl hm hb
 |fn f first jI vf vc hl hm hn h k=>exact .fn f first jI vf vc hl hm hn h k
theorem NK (b:Nat)(a:AV)(v:Value)(h:a.cv=true):eH b a.hJ v=0:=by
 refine dN b _ _ ?_
 cases a<;>simp_all [AV.hJ,AV.bR,AV.cv]
theorem F2 (a:AV)(h:a.cv=true):a.hJ.cv=true:=by
 cases a<;>simp_all [AV.hJ,AV.cv]
theorem bV.hJ {as:List AV}{xs:List Value}(h:bV w G as xs):bV w G (as.map AV.hJ) xs:=by
 refine⟨by simp[h.1],λi c v h1 h2=>?_⟩
 simp only[List.getElem?_map,Option.map_eq_some_iff]at h1
 obtain⟨c',h1,rfl⟩:=h1
 exact(h.2 i c' v h1 h2).hJ
theorem C0 (b:Nat):∀(as:List AV)(xs:List Value),AV.aH as=true->bM b (as.map AV.hJ) xs=0
 |[],xs,_=>by simp[bM]
 |a::as,[],_=>by simp[bM]
 |a::as,x::xs,h=>by
  simp only[AV.aH,List.all_cons,Bool.and_eq_true]at h
  have:=C0 b as xs h.2
  simp only[List.map_cons,bM,NK b a x h.1,this]
theorem CD {as:List AV}(h:AV.aH as=true):AV.aH (as.map AV.hJ)=true:=by
 simp only[AV.aH,List.all_eq_true,List.mem_map]at *
 rintro x ⟨y,hy,rfl⟩
 exact F2 y (h y hy)
theorem Ea {as:List AV}(h:AV.aH as=true)(k n:Nat):AV.aH ((as.drop k).take n)=true:=by
 simp only[AV.aH,List.all_eq_true]at *
 intro x hx
 exact h x (List.mem_of_mem_drop (List.mem_of_mem_take hx))
theorem qQ {α:Type}(xs:List α)(k n:Nat)(h:k+n<=xs.length):af xs k ((xs.drop k).take n)=xs:=by
 rw[iS _ _ _ (by simp;omega)]
 have:((xs.drop k).take n).length=n:=by simp;omega
 rw[this,List.append_assoc,<-List.drop_drop,List.take_append_drop,List.take_append_drop]
theorem F3 {r cs:List AV}{xs:List Value}{k n:Nat}(hr:bV w G r xs)(hc:cut r k n=some cs)(gK:AV.aH r=true) :
  bV w G (af r k (cs.map AV.hJ)) xs/\AV.aH (af r k (cs.map AV.hJ))=true/\∀b,bM b (af r k (cs.map AV.hJ)) xs+bM b cs ((xs.drop k).take n)=bM b r xs:=by
 obtain⟨rfl,hle,hlen⟩:=oD hc
 have Nv:=Ea gK k n
 have IN:k+n<=xs.length:=by rw[<-hr.1];exact hle
 have UU:=qQ xs k n IN
 refine⟨?_,iT gK (CD Nv) (by rw[List.length_map];omega),λb=>?_⟩
 ·have:=hr.af ((hr.drop k).take n).hJ (n:=k) (by rw[List.length_map];omega)
  rw[UU]at this
  exact this
 ·have h1:=jN b k r xs hr.1
  have h2:=jN b n (r.drop k) (xs.drop k) (by simp[hr.1])
  have h3:=C0 b ((r.drop k).take n) ((xs.drop k).take n) Nv
  have e:bM b (af r k (((r.drop k).take n).map AV.hJ)) xs=bM b (af r k (((r.drop k).take n).map AV.hJ)) (af xs k ((xs.drop k).take n)):=by rw[UU]
  rw[e,iS _ _ _ (by rw[List.length_map];omega),iS _ _ _ (by simp;omega),eL b _ _ _ _ (by have:=hr.1;simp;omega),eL b _ _ _ _ (by have:=hr.1;simp;omega),h3]
  have l1:(((r.drop k).take n).map AV.hJ).length=n:=by rw[List.length_map];omega
  have l2:((xs.drop k).take n).length=n:=by simp;omega
  rw[l1,l2]
  rw[List.drop_drop,List.drop_drop]at h2
  omega
theorem fU {α:Type}(l:List α)(i:Nat)(x:α)(h:l[i]?=some x):l.set i x=l:=by
 apply List.ext_getElem?
 intro j
 rw[List.getElem?_set]
 split
 ·rename_i e;subst e
  split
  ·exact h.symm
  ·rename_i hn;exact absurd (List.getElem?_eq_some_iff.1 h).1 hn
 ·rfl
theorem IP {t:TypeId}{x:Operand}{n:Nat}{agg:Bool}(ho:o.op=.load t x)(hn:ck P t n=true)(p7:lA P t=some agg)(kq:agg=false->n=1){st:aj}{bx:aS}(hI:Inv w G st)(hB:jg w G β bx){cO:Nat->Nat}(hX:∀b,cO b+fj b β bx+bS b G.ls st<=1)
  {p:AV} (hp:aL w G p (ρ x)) {wl aa:Nat} {bK:aj} {eI:aS} {r:dK} (ha:aI wl aa (.load agg n true) [.val p] st bx=some (r,bK,eI)) :
  ∃v,(execOp ρ o).run P w=.ok (.value v) w/\iz w G β st bx cO w G β bK eI r v:=by
 simp only[aI,if_true]at ha
 split at ha
 ·rename_i cs AI
  split at ha
  ·rename_i kV v hw hv
   cases ha
   unfold dz at hw
   split at hw
   ·rename_i id bP i k
    split at hw
    ·rename_i ve sz rows eG
     split at hw
     ·rename_i D3
      simp only[Bool.and_eq_true,decide_eq_true_eq]at D3
      obtain⟨rfl,_⟩:=D3
      split at hw
      ·rename_i row cP
       split at hw
       ·rename_i bY
        cases hw
        simp only[fF,eG,cP,if_true]at AI
        obtain⟨loc,b,off,c,e,xs,hl,yJ,xz,gn,F1,rQ,eJ,eF,eu,hle,hlen,gq,IK,kj,cW⟩:=vZ hI hp eG cP
        obtain⟨t1,t2,t3⟩:=F3 kj AI (gn.zG row (cD cP))
        obtain⟨nt,IQ,Fz⟩:=oD AI
        have hxl:xs.length=row.length:=kj.1.symm
        have Ka:((xs.drop k).take n).length=n:=by simp;omega
        have dc:bV w G cs ((xs.drop k).take n):=by rw[nt];exact(kj.drop k).take n
        obtain⟨u,h1,h2,h3⟩:=D4 ho hn p7 kq F1 Ka dc (λj z hz=>by
         rw[List.getElem?_take]at hz
         split at hz
         ·rw[List.getElem?_drop]at hz
          rw[show off+(i*sz+k)+j=off+(i*sz+(k+j)) by omega]
          exact cW i xs (k+j) z IK hz
         ·cases hz) hv
        refine⟨u,h1,pM hI hB hX hl eG (pF.refl w G) (fU _ _ _ hl).symm ⟨yJ,xz,?_⟩ hI.kP (λb _ _=>⟨rfl,rfl⟩) (Nat.le_refl _) rfl rfl h2 λb'=>?_⟩
        ·refine⟨bZ.2 λr' uA=>?_,λr' uA=>?_,by simp[gn.len],gn.size,by simp[gn.p6],λi' r' Io h1 h2=>?_,.inr ⟨b,off,c,e,rQ,eJ,eu,hle,by simpa using hlen,gq,cW⟩⟩
         ·rcases List.mem_or_eq_of_mem_set uA with h|h
          ·exact bZ.1 gn.fit r' h
          ·rw[h,cZ];exact bZ.1 gn.fit row (cD cP)
         ·rcases List.mem_or_eq_of_mem_set uA with h|h
          ·exact gn.zG r' h
          ·rw[h];exact t2
         ·rw[List.getElem?_set]at h1
          by_cases IM:i=i'
          ·subst IM
           rw[if_pos rfl]at h1
           split at h1
           ·cases h1
            rw[IK]at h2;cases h2
            exact t1
           ·cases h1
          ·rw[if_neg IM]at h1
           exact gn.qo i' r' Io h1 h2
        ·have h4:=qp b' rows loc.vals i row xs (af row k (cs.map AV.hJ)) xs cP IK
         rw[fU _ _ _ IK]at h4
         have h5:=t3 b'
         have h6:=h3 b'
         simp only[cg,gu]
         omega
       ·cases hw
      ·cases hw
     ·cases hw
    ·cases hw
   ·cases hw
  ·cases ha
 ·cases ha
end Ax
namespace Ax
open Go
variable {P:Program}{w w':World}{G G':aK}{β fI:List kO}{ρ:Operand->Value}{o:Oper}
def dQ (nb:Option Nat)(β fI:List kO):Prop:=∀(j:Nat) g,β[j]?=some g->∃g',fI[j]?=some g'/\(nb≠some j->g'.iQ=g.iQ)
theorem dQ.refl (nb:Option Nat)(β:List kO):dQ nb β β:=λ_ g h=>⟨g,h,λ_=>rfl⟩
theorem dQ.set {nb:Option Nat}{j:Nat}{g g':kO}(hg:β[j]?=some g)(h:nb≠some j->g'.iQ=g.iQ):dQ nb β (β.set j g'):=by
 intro i x hx
 by_cases hi:j=i
 ·subst hi
  rw[hg]at hx;cases hx
  exact⟨g',by rw[List.getElem?_set,if_pos rfl,if_pos (List.getElem?_eq_some_iff.1 hg).1],h⟩
 ·exact⟨x,by rw[List.getElem?_set,if_neg hi];exact hx,λ_=>rfl⟩
theorem AJ {st:aj}{bx:aS}{cO:Nat->Nat}(hI:Inv w G st)(hB:jg w G β bx)(hX:∀b,cO b+fj b β bx+bS b G.ls st<=1){j:Nat}{g g':kO}{row row':List AV}{e:dK}{v:Value}
  (hg:β[j]?=some g) (hr:bx[j]?=some row) (eF:g'.iQ=g.iQ) (hs:pF w G w' G') (IG:G'.ls=G.ls) (qt:vW w' G' row' g') (ht:∀b p,G'.kg b=some p->b<w'.heap.size)
  (FY:∀b,b<w.heap.size->g.iQ≠some b->dw w G w' G' b) (NG:w.heap.size<=w'.heap.size) (Im:w'.os=w.os) (uz:w'.output=w.output) (dc:jv w' G' (β.set j g') e v)
  (hc:∀b,cg b e v+bM b row' g'.vals<=cO b+bM b row g.vals):iz w G β st bx cO w' G' (β.set j g') st (bx.set j row') e v:=by
 have key:∀b,g.iQ=some b->1<=(if g.iQ=some b then 1 else 0)+bM b row g.vals:=λb h=>by rw[if_pos h];omega
 refine⟨hs,sE hI hs IG (λb hb=>FY b (hI.held hb) λh=>?_) ht,⟨by simp[hB.len],λi r x h1 h2=>?_⟩,dc,λb=>?_,λb hb aZ=>FY b aZ λh=>?_,NG,Im,uz⟩
 ·have h1:=key b h
  have h2:=lD b β bx j g row hg hr
  have:=hX b
  omega
 ·rw[List.getElem?_set]at h1 h2
  by_cases zn:j=i
  ·subst zn
   rw[if_pos rfl,if_pos (List.getElem?_eq_some_iff.1 hr).1]at h1
   rw[if_pos rfl,if_pos (List.getElem?_eq_some_iff.1 hg).1]at h2
   cases h1;cases h2;exact qt
  ·rw[if_neg zn]at h1 h2
   refine(hB.box i r x h1 h2).iu hs λb hb=>FY b (hB.held (b:=b) (by have:=lD b β bx i x r h2 h1;omega)) λh=>?_
   have h3:=key b h
   have h4:=FQ b β bx i j x r g row (λe=>zn e.symm) h2 h1 hg hr
   have:=hX b
   omega
 ·have h1:=vV b β bx j g row g' row' hg hr
  have h2:=hc b
  rw[IG]
  rw[eF]at h1
  omega
 ·have h1:=key b h
  have h2:=lD b β bx j g row hg hr
  omega
theorem Eb {bx:aS}(hB:jg w G β bx){j k:Nat}{v:Value}{row:List AV}(hp:jv w G β (.fp j k) v)(hr:bx[j]?=some row) :
  ∃g b c e,β[j]?=some g/\g.iQ=some b/\v=.pointer (some ⟨b,k,none⟩)/\vW w G row g/\w.heap[b]?=some (.cells c e (0,0))/\row.length<=c.size/\G.kg b=some 0/\∀(k:Nat) x,g.vals[k]?=some x->w.cell? ⟨b,k,none⟩=some x:=by
 obtain⟨g,b,h1,h2,h3⟩:=hp
 have hb:=hB.box j row g hr h1
 rcases hb.nB with⟨h0,_⟩|⟨b',c,e,h4,h5,h6,h7,h8⟩
 ·rw[h0]at h2;cases h2
 ·rw[h2]at h4;cases h4
  exact⟨g,b,c,e,h1,h2,h3,hb,h5,h6,h7,h8⟩
theorem NL {t:TypeId}{x y:Operand}{j0 n:Nat}(ho:o.op=.store t x y)(hn:ck P t n=true){st:aj}{bx:aS}(hI:Inv w G st)(hB:jg w G β bx){cO:Nat->Nat}(hX:∀b,cO b+fj b β bx+bS b G.ls st<=1)
  {p v:dK} (hp:jv w G β p (ρ x)) (hv:jv w G β v (ρ y)) (nt:∀b,cg b v (ρ y)<=cO b) {wl aa:Nat} {bK:aj} {eI:aS} {r:dK} (ha:aI wl aa (.ai j0 n) [p,v] st bx=some (r,bK,eI)) :
  ∃w' G' fI,(execOp ρ o).run P w=.ok .skip w'/\iz w G β st bx cO w' G' fI bK eI r undef/\dQ none β fI:=by
 unfold aI at ha
 simp only at ha
 split at ha
 ·rename_i j k v heq
  cases heq
  split at ha
  ·rename_i jk
   simp only[Bool.and_eq_true,decide_eq_true_eq]at jk
   obtain⟨⟨rfl,Sr⟩,CC⟩:=jk
   split at ha
   ·rename_i row hr
    split at ha
    ·rename_i bY
     cases ha
     obtain⟨g,b,c,e,hg,eF,F1,rR,eu,hle,gq,cW⟩:=Eb hB hp hr
     obtain⟨vK,J1⟩:=aL.cells hv
     have Rz:(ρ y).cells.toList.length=n:=by rw[<-Sr];exact vK.1.symm
     have IL:k+(ρ y).cells.toList.length<=c.size:=by omega
     have zp:=fS (P:=P) b k e (ρ y).cells.toList c w eu IL (vK.R5 CC)
     have hW:Wr w G (w.setRow b (af c.toList k (ρ y).cells.toList).toArray) ⟨G.ls,λb'=>if b'=b then some 0 else G.kg b'⟩ b:=AH eu IL gq (Nat.zero_le _) (Nat.le_refl _) (AF G)
     have kq:cO b=0/\bM b row g.vals=0:=by
      have h1:=hX b
      have h2:=lD b β bx j0 g row hg hr
      rw[if_pos eF]at h2
      omega
     refine⟨_,⟨G.ls,λb'=>if b'=b then some 0 else G.kg b'⟩,β.set j0 ⟨g.iQ,af g.vals k (ρ y).cells.toList⟩,?_,AJ hI hB hX hg hr rfl hW.iu rfl ⟨?_,iT rR.zG CC (by rw[Sr];exact bY),.inr ⟨b,_,e,eF,setRow_heap w b c _ e (0,0) eu,?_,by simp,λi z hz=>?_⟩⟩ (hW.kP hI) (λb' _ kW=>hW.iy λe=>kW (by rw[eF,e])) (by simp) rfl rfl trivial λb'=>?_,dQ.set hg λ_=>rfl⟩
     ·have dL:(ρ y).cells.size=n:=by simpa using Rz
      simp only[execOp,ho,F1,Sem.run_bind,Instr.storeAt,Instr.sureAddr,Sem.run_pure,Result.andThen_ok,storeVar,dn hn,dL,ne_eq,not_true_eq_false,if_false,zp]
     ·refine(rR.rep.mono hW.iu λb' kW=>hW.iy λe=>?_).af (vK.mono hW.iu λb' kW=>hW.iy λe=>?_) (by rw[Sr];exact bY)
      ·subst e;omega
      ·subst e
       rw[J1]at kW
       have:=nt b'
       simp only[cg]at this
       omega
     ·rw[cZ,List.size_toArray,cZ];simpa using hle
     ·rw[pK eu IL]
      simp only at hz
      rw[iw _ _ _ _ (by rw[Rz];rw[<-rR.rep.1];exact bY)]at hz
      split at hz
      ·rename_i hi;rw[if_pos hi];exact hz
      ·rename_i hi;rw[if_neg hi];exact cW i z hz
     ·have h2:=oC b' row v.cells g.vals (ρ y).cells.toList k rR.rep.1 vK.1 (by rw[Sr];exact bY)
      have h3:=nt b'
      rw[J1]at h2
      simp only[cg]at h3 ⊢
      omega
    ·cases ha
   ·cases ha
  ·cases ha
 ·cases ha
theorem Ss {t:TypeId}{x:Operand}{j0 n:Nat}{agg take:Bool}(ho:o.op=.load t x)(hn:ck P t n=true)(p7:lA P t=some agg)(kq:agg=false->n=1){st:aj}{bx:aS}(hI:Inv w G st)(hB:jg w G β bx){cO:Nat->Nat}(hX:∀b,cO b+fj b β bx+bS b G.ls st<=1)
  {p:dK} (hp:jv w G β p (ρ x)) {wl aa:Nat} {bK:aj} {eI:aS} {r:dK} (ha:aI wl aa (.aD j0 agg n take) [p] st bx=some (r,bK,eI)) :
  ∃v,(execOp ρ o).run P w=.ok (.value v) w/\iz w G β st bx cO w G β bK eI r v:=by
 unfold aI at ha
 simp only at ha
 split at ha
 ·rename_i j k heq
  cases heq
  split at ha
  ·rename_i hj
   subst hj
   split at ha
   ·rename_i row hr
    split at ha
    ·rename_i cs NM
     obtain⟨g,b,c,e,hg,eF,F1,rR,eu,hle,gq,cW⟩:=Eb hB hp hr
     obtain⟨nt,IQ,Fz⟩:=oD NM
     have hxl:g.vals.length=row.length:=rR.rep.1.symm
     have Ka:((g.vals.drop k).take n).length=n:=by simp;omega
     have dc:bV w G cs ((g.vals.drop k).take n):=by rw[nt];exact(rR.rep.drop k).take n
     have l8:∀(j:Nat) y,((g.vals.drop k).take n)[j]?=some y->w.cell? ⟨b,k+j,none⟩=some y:=λj z hz=>by
      rw[List.getElem?_take]at hz
      split at hz
      ·rw[List.getElem?_drop]at hz;exact cW _ z hz
      ·cases hz
     split at ha
     ·split at ha
      ·rename_i v hv
       cases ha
       obtain⟨u,h1,h2,h3⟩:=D4 ho hn p7 kq F1 Ka dc l8 hv
       obtain⟨t1,t2,t3⟩:=F3 rR.rep NM rR.zG
       have:=AJ (e:=.val v) (v:=u) (g':=g) (row':=af row k (cs.map AV.hJ)) hI hB hX hg hr rfl (pF.refl w G) rfl ⟨t1,t2,.inr ⟨b,c,e,eF,eu,by rw[cZ];exact hle,gq,cW⟩⟩ hI.kP (λb _ _=>⟨rfl,rfl⟩) (Nat.le_refl _) rfl rfl h2 λb'=>by
        have h4:=t3 b'
        have h5:=h3 b'
        simp only[cg]
        omega
       rw[fU _ _ _ hg]at this
       exact⟨u,h1,this⟩
      ·cases ha
     ·split at ha
      ·rename_i v hv
       cases ha
       obtain⟨u,h1,h2,h3⟩:=D4 ho hn p7 kq F1 Ka dc.view l8 hv
       refine⟨u,h1,iz.quiet hI hB h2 λd=>?_⟩
       simp only[cg,h3 d]
       rw[cU d _ _ (fB cs)]
       omega
      ·cases ha
    ·cases ha
   ·cases ha
  ·cases ha
 ·cases ha
theorem AK (b:Nat):∀(n:Nat)(rs:List (List AV))(xs:List (List Value)),eM b (rs.take n) (xs.take n)<=eM b rs xs
 |0,rs,xs=>by simp[eM]
 |n+1,[],xs=>by simp[eM]
 |n+1,r::rs,[]=>by simp[eM]
 |n+1,r::rs,x::xs=>by
  have:=AK b n rs xs
  simp only[List.take_succ_cons,eM];omega
theorem NN {t e:TypeId}{x hi:Operand}{sz:Nat}(ho:o.op=.slice t x none (some hi) none)(hu:P.underlying t=some (.slice e))(dL:ck P e sz=true){st:aj}{bx:aS}(hI:Inv w G st)(hB:jg w G β bx){cO:Nat->Nat}(hX:∀b,cO b+fj b β bx+bS b G.ls st<=1)
  {a h:AV} (ha:aL w G a (ρ x)) (hh:aL w G h (ρ hi)) {wl aa:Nat} {bK:aj} {eI:aS} {r:dK} (zq:aI wl aa (.u6 sz) [.val a,.val h] st bx=some (r,bK,eI)) :
  ∃v G',(execOp ρ o).run P w=.ok (.value v) w/\iz w G β st bx cO w G' β bK eI r v:=by
 unfold aI at zq
 simp only at zq
 split at zq
 ·rename_i id bP n heq
  cases heq
  split at zq
  ·rename_i v s rows eG
   split at zq
   ·rename_i hc
    simp only[Bool.and_eq_true,decide_eq_true_eq]at hc
    obtain⟨⟨⟨⟨rfl,rfl⟩,h0⟩,h1⟩,_⟩:=hc
    cases zq
    obtain⟨loc,hl,yJ,xz,gn⟩:=hI.loc eG
    generalize FI:ρ x=xv at ha
    cases ha with
    |mu _ _ _ loc' hp nA Cr he=>
    rw[hl]at nA;cases nA
    have cw:=he (by omega)
    subst cw
    have eJ:rows.length<=loc.cap:=by
     rcases gn.nB with⟨h0,h1,_⟩|⟨b,off,c,e',rQ,eJ,eu,dL,hlen,gq,cW⟩
     ·rw[h1];simp
     ·exact hlen
    have hhv:=hh.eS
    have afd:(execOp ρ o).run P w=.ok (.value (.slice loc.a n.toNat loc.cap)) w:=by
     simp only[execOp,ho,FI,Sem.run_bind]
     have hb:(Instr.sliceBounds true loc.len loc.cap none (some (ρ hi)) none).run P w=.ok (0,n.toNat,loc.cap) w:=by
      have:=jw (P:=P) (sd:=true) (len:=loc.len) (cap:=loc.cap) (lo:=none) (hi:=some hi) (ρ:=ρ) (a:=0) (b:=n) (.inl ⟨rfl,rfl⟩) (.inr ⟨hi,rfl,hhv⟩) (by omega) h0 (by omega) w
      simpa using this
     simp only[Instr.sliceAt,Sem.run_bind,run_underlying hu,Result.andThen_ok,Instr.slice,Option.map_none,Option.map_some,hb,dn dL,Sem.run_pure]
     rcases gn.nB with⟨h0,h1,_⟩|⟨b,off,c,e',rQ,eJ,eu,dL,hlen,gq,cW⟩
     ·simp[h0]
     ·simp[rQ,jO,show ¬loc.cap=0 by omega]
    have zo:pF w G w (G.at id ⟨loc.a,loc.cap,n.toNat,loc.sz,v+1,false,loc.vals.take n.toNat⟩):=IF hl (by simp;omega) λh=>by rcases h with h|h<;>simp_all<;>omega
    refine⟨_,_,afd,pM (loc':=⟨loc.a,loc.cap,n.toNat,loc.sz,v+1,false,loc.vals.take n.toNat⟩) hI hB hX hl eG zo rfl ⟨rfl,rfl,?_⟩ hI.kP (λb _ _=>⟨rfl,rfl⟩) (Nat.le_refl _) rfl rfl (.mu _ _ _ _ ⟨_,_,_,rfl⟩ (by simp only[aK.at];rw[List.getElem?_set,if_pos rfl,if_pos (List.getElem?_eq_some_iff.1 hl).1]) (Nat.le_refl _) λ_=>rfl) λb=>?_⟩
    ·have hold:=nC.iu (w':=w) (show nC w G (.rows v s rows) loc from⟨yJ,xz,gn⟩) zo λb _=>⟨rfl,rfl⟩
     obtain⟨_,_,h3⟩:=hold
     refine⟨bZ.2 λr hr=>bZ.1 h3.fit r (List.mem_of_mem_take hr),λr hr=>h3.zG r (List.mem_of_mem_take hr),by simp;omega,h3.size,by simp[h3.p6],λi r xs e1 e2=>?_,?_⟩
     ·simp only at e2
      rw[List.getElem?_take]at e1 e2
      split at e1
      ·rename_i aZ;rw[if_pos aZ]at e2;exact h3.qo i r xs e1 e2
      ·cases e1
     ·rcases h3.nB with⟨h0,h1,h2⟩|⟨b,off,c,e',rQ,eJ,eu,dL,hlen,gq,cW⟩
      ·exact .inl ⟨h0,by rw[h1];simp,h2⟩
      ·refine .inr ⟨b,off,c,e',rQ,eJ,eu,dL,by simp;omega,gq,λi xs j z e1 e2=>?_⟩
       simp only at e1
       rw[List.getElem?_take]at e1
       split at e1
       ·exact cW i xs j z e1 e2
       ·cases e1
    ·have h2:=AK b n.toNat rows loc.vals
     simp only[cg,eH]
     show 0+((if loc.iQ=some b then 1 else 0)+eM b (rows.take n.toNat) (loc.vals.take n.toNat))<=cO b+((if loc.iQ=some b then 1 else 0)+eM b rows loc.vals)+_
     omega
   ·cases zq
  ·cases zq
 ·cases zq
end Ax
namespace Ax
open Go
variable {P:Program}{w w':World}{G G':aK}{β fI:List kO}{ρ:Operand->Value}{o:Oper}
theorem AL {r:Nat}{es:Array MapEntry}{clock:Nat}{ob:Obj}(h:w.heap[r]?=some (.map es clock)):(setObj r ob).run P w=.ok () { w with heap:=w.heap.setIfInBounds r ob }:=by
 simp[setObj,Sem.run,h]
theorem IS {t:TypeId}{kk:SK}(ht:mV P t kk=true){k v:AV}{x y:Value}(hk:aL w G k x)(hv:aL w G v y)(Ze:k.bR=true)(Sr:v.bR=true):∀(es se:List (AV×AV))(fs:List MapEntry),vn w G es fs->Cw kk k v es=some se->
  (∃i e u,pz kk k es=some (some u)/\fs[i]?=some e/\(∀(q:Option (Nat×Value)),(Instr.findKey t x fs).run P w=.ok q w->∃val,q=some (i,val))/\Cp kk k (es[i]?.map (·.1) |>.getD .undef)=some true/\(∃a,es[i]?=some a/\aL w G a.1 e.key)/\vn w G se (fs.set i { e with key:=x,val:=y }))\/
  (pz kk k es=some none/\∀born,vn w G se (fs++[{ key:=x,val:=y,born:=born }])):=by
 have hu:∃d,P.underlying t=some d:=by
  unfold mV at ht
  cases kk<;>simp only at ht<;>split at ht<;>(try cases ht)<;>exact⟨_,by assumption⟩
 obtain⟨d,hu⟩:=hu
 intro es
 induction es with
 |nil=>
  intro se fs hM h
  simp only[Cw,Option.some.injEq]at h
  subst h
  have h0:fs=[]:=List.eq_nil_of_length_eq_zero (by simpa using hM.1)
  subst h0
  refine .inr ⟨rfl,λborn=>⟨rfl,λi a b e h1 h2=>?_⟩⟩
  cases i with
  |zero=>simp at h1 h2;obtain⟨rfl,rfl⟩:=h1;subst h2;exact⟨hk,hv,Sr,Ze⟩
  |succ i=>simp at h1
 |cons c es ih=>
  intro se fs hM h
  obtain⟨a,u⟩:=c
  cases fs with
  |nil=>have:=hM.1;simp at this
  |cons f fs=>
   obtain⟨g1,g2,g3,g4⟩:=hM.2 0 a u f rfl rfl
   simp only[Cw]at h
   split at h
   ·rename_i he
    cases h
    refine .inl ⟨0,f,u,by simp[pz,he],rfl,λq hq=>?_,by simpa using he,⟨(a,u),rfl,g1⟩,?_⟩
    ·have hs:=qM ht hu he hk g1
     have:(Instr.findKey t x (f::fs)).run P w=.ok (some (0,f.val)) w:=by simp[Instr.findKey,run_underlying hu,Instr.findNow,hs]
     rw[this]at hq;cases hq;exact⟨_,rfl⟩
    ·refine⟨by simpa using hM.1,λi p q e h1 h2=>?_⟩
     cases i with
     |zero=>simp at h1 h2;obtain⟨rfl,rfl⟩:=h1;subst h2;exact⟨hk,hv,Sr,Ze⟩
     |succ i=>exact hM.2 (i+1) p q e (by simpa using h1) (by simpa using h2)
   ·rename_i he
    split at h
    ·rename_i r' uA
     cases h
     have hs:=qM ht hu he hk g1
     have UW:∀es2 fs2,vn w G es2 fs2->vn w G ((a,u)::es2) (f::fs2):=λes2 fs2 h2=>⟨by simp[h2.1],λi p q e e1 e2=>by
      cases i with
      |zero=>simp at e1 e2;obtain⟨rfl,rfl⟩:=e1;subst e2;exact⟨g1,g2,g3,g4⟩
      |succ i=>exact h2.2 i p q e (by simpa using e1) (by simpa using e2)⟩
     rcases ih r' fs hM.tail uA with⟨i,e,u',f1,f2,f3,f4,f5,f6⟩|⟨f1,f2⟩
     ·refine .inl ⟨i+1,e,u',by simp[pz,he,f1],by simpa using f2,λq hq=>?_,by simpa using f4,by simpa using f5,by simpa using UW _ _ f6⟩
      obtain⟨q0,e1,e2⟩:=qN ht hu hk es fs 0 _ hM.tail f1
      obtain⟨q1,e3,e4⟩:=qN ht hu hk es fs 1 _ hM.tail f1
      obtain⟨j0,e0,a1,_⟩:=e2
      obtain⟨j1,e0',b1,b2,_⟩:=e4
      have h0:(Instr.findKey t x fs).run P w=.ok q0 w:=by simp[Instr.findKey,run_underlying hu,e1]
      obtain⟨val,cw⟩:=f3 q0 h0
      have:(Instr.findKey t x (f::fs)).run P w=.ok q1 w:=by simp[Instr.findKey,run_underlying hu,Instr.findNow,hs,e3]
      rw[this]at hq;cases hq
      have key:∀(fs:List MapEntry) (s:Nat) (q:Option (Nat×Value)),Instr.findNow d x fs s=some q->Instr.findNow d x fs (s+1)=some (q.map λz=>(z.1+1,z.2)):=by
       intro fs
       induction fs with
       |nil=>intro s q h;simp[Instr.findNow]at h ⊢;subst h;rfl
       |cons f fs ih=>
        intro s q h
        simp only[Instr.findNow]at h ⊢
        cases hsn:Instr.sameNow d x f.key with
        |none=>rw[hsn]at h;simp at h
        |some b=>
         rw[hsn]at h
         cases b with
         |true=>simp at h ⊢;subst h;rfl
         |false=>simp at h ⊢;exact ih _ _ h
      have h3:=key fs 0 q0 e1
      rw[Nat.zero_add]at h3
      rw[e3]at h3
      cases h3
      rw[cw]
      exact⟨val,rfl⟩
     ·exact .inr ⟨by simp[pz,he,f1],λborn=>UW _ _ (f2 born)⟩
    ·cases h
   ·cases h
theorem F4 {kk:SK}{a b:AV}{x y:Value}(h:Cp kk a b=some true)(ha:aL w G a x)(hb:aL w G b y)(n:Nat):Instr.sameBits n y x=true:=by
 unfold Cp at h
 split at h
 ·simp only[Option.some.injEq,beq_iff_eq]at h
  rw[ha.iR,hb.iR,h];simp[Instr.sameBits]
 ·split at h
  ·rename_i iK
   subst iK
   simp only[Option.some.injEq,beq_iff_eq]at h
   rw[ha.eS,hb.eS,h];simp[Instr.sameBits]
  ·cases h
 ·simp only[Option.some.injEq,beq_iff_eq]at h
  obtain⟨s,rfl,rfl⟩:=ha.kM
  obtain⟨s',rfl,h2⟩:=hb.kM
  have:s=s':=ByteArray.ext (Array.toList_inj.1 (h.trans h2.symm))
  subst this
  simp only[Instr.sameBits]
  rw[beq_toListBytes];exact beq_self_eq_true _
 ·cases h
theorem yP {t kt et:TypeId}{m k x:Operand}(ho:o.op=.mapUpdate t m k x\/o.op=.insert t m k x)(hu:P.underlying t=some (.map kt et)){kk:SK}(ht:mV P kt kk=true){st:aj}{bx:aS}(hI:Inv w G st)(hB:jg w G β bx){cO:Nat->Nat}(hX:∀b,cO b+fj b β bx+bS b G.ls st<=1)
  {am ak av:AV} (hm:aL w G am (ρ m)) (hk:aL w G ak (ρ k)) (hv:aL w G av (ρ x)) {wl aa:Nat} {bK:aj} {eI:aS} {r:dK} (ha:aI wl aa (.mapUpdate kk) [.val am,.val ak,.val av] st bx=some (r,bK,eI)) :
  ∃w' G',(execOp ρ o).run P w=.ok .skip w'/\iz w G β st bx cO w' G' β bK eI r undef:=by
 unfold aI at ha
 simp only at ha
 split at ha
 ·rename_i id k0 v0 heq
  cases heq
  split at ha
  ·rename_i es eG
   split at ha
   ·rename_i jk
    simp only[Bool.and_eq_true]at jk
    split at ha
    ·rename_i se LH
     cases ha
     have Ze:ak.bR=true:=by
      have:=jk.1
      unfold isKey at this
      split at this<;>first|rfl|cases this
     obtain⟨loc,hl,R4⟩:=hI.loc eG
     obtain⟨g1,g2,b,fs,clock,g3,g4,g5,g6,g7⟩:=R4
     have hmv:ρ m=.map (some b):=by
      generalize ρ m=mv at hm
      cases hm with
      |map _ loc' bk nA yJ kW=>rw[hl]at nA;cases nA;rw[kW]at g3;cases g3;rfl
     have eF:loc.iQ=some b:=by unfold Loc.iQ;rw[if_neg (by omega),g3];rfl
     have hM:vn w G es fs.toList:=⟨by simpa using g6,λi a v e e1 e2=>g7 i a v e e1 (by simpa using e2)⟩
     have Sc:(getObj b).run P w=.ok (.map fs clock) w:=by simp[getObj,Sem.run,g4]
     have Zc:=run_checkKey (w:=w) ht false 9999 (ρ k)
     have fin:∀(fs':Array MapEntry) (Ec:Nat),vn w G se fs'.toList->
       iz w G β st bx cO { w with heap:=w.heap.setIfInBounds b (.map fs' Ec) } ⟨(G.at id loc).ls,λb'=>if b'=b then some 0 else G.kg b'⟩ β (st.set id (.map se)) bx .none undef:=by
      intro fs' Ec hM'
      have aZ:b<w.heap.size:=(Array.getElem?_eq_some_iff.1 g4).1
      have hW:Wr w G { w with heap:=w.heap.setIfInBounds b (.map fs' Ec) } ⟨(G.at id loc).ls,λb'=>if b'=b then some 0 else G.kg b'⟩ b:=
       ⟨by simp,λb' kW=>by simp only[Array.getElem?_setIfInBounds];rw[if_neg λe=>kW e.symm],λb' kW=>by simp[kW],⟨0,0,g5,by simp,Nat.le_refl _,λo ho=>by omega⟩,AG hl (Nat.le_refl _) λ_=>rfl⟩
      refine pM hI hB hX hl eG hW.iu rfl ⟨g1,g2,b,fs',Ec,g3,?_,by simp,by simpa using hM'.1,λi a v e e1 e2=>?_⟩ (hW.kP hI) (λb' _ kW=>hW.iy λe=>kW (by rw[eF,e])) (by simp) rfl rfl trivial λb'=>by simp only[cg,gu];omega
      ·simp only[Array.getElem?_setIfInBounds];rw[if_pos trivial,if_pos aZ]
      ·obtain⟨h1,h2,h3,h4⟩:=hM'.2 i a v e e1 (by simpa using e2)
       exact⟨h1.iu hW.iu λb hb=>by rw[dN b a _ h4]at hb;omega,h2.iu hW.iu λb hb=>by rw[dN b v _ h3]at hb;omega,h3,h4⟩
     have head:∀(w':World),(Instr.mapUpdate t (.map (some b)) (ρ k) (ρ x)).run P w=.ok () w'->(execOp ρ o).run P w=.ok .skip w':=by
      intro w' h
      rcases ho with ho|ho<;>simp only[execOp,ho,hmv,Sem.run_bind,h,Result.andThen_ok,Sem.run_pure]
     rcases IS ht hk hv.view Ze (qL av) es se fs.toList hM LH with⟨i,e,u,f1,f2,f3,f4,⟨a,f5,f6⟩,f7⟩|⟨f1,f2⟩
     ·obtain⟨q,e1,e2⟩:=run_findKey ht hk hM f1 w
      obtain⟨val,rfl⟩:=f3 q e1
      have Su:fs[i]?=some e:=by simpa using f2
      refine⟨_,_,head _ ?_,fin (fs.modify i λe=>{ e with key:=ρ k,val:=ρ x }) clock ?_⟩
      ·rw[f5]at f4
       have hsb:=F4 f4 hk f6 10000
       simp only[Instr.mapUpdate,Sem.run_bind,run_underlying hu,Result.andThen_ok,Sc,Zc,e1,Su,Option.map_some,Option.getD_some,Instr.keyThatStays,hsb,if_true,Sem.run_pure,AL g4]
      ·have:(fs.modify i λe=>{ e with key:=ρ k,val:=ρ x }).toList=fs.toList.set i { e with key:=ρ k,val:=ρ x }:=by
        rw[Array.toList_modify]
        apply List.ext_getElem?
        intro j
        rw[List.getElem?_modify,List.getElem?_set]
        by_cases zn:i=j
        ·subst zn
         simp[(Array.getElem?_eq_some_iff.1 Su).1,(Array.getElem?_eq_some_iff.1 Su).2]
        ·simp[zn]
       rw[this]
       exact f7
     ·obtain⟨q,e1,e2⟩:=run_findKey ht hk hM f1 w
      simp only at e2
      subst e2
      refine⟨_,_,head _ ?_,fin (fs.push { key:=ρ k,val:=ρ x,born:=clock }) (clock+1) (by rw[Array.toList_push];exact f2 clock)⟩
      simp only[Instr.mapUpdate,Sem.run_bind,run_underlying hu,Result.andThen_ok,Sc,Zc,e1,AL g4]
    ·cases ha
   ·cases ha
  ·cases ha
 ·cases ha
end Ax
namespace Ax
open Go
variable {P:Program}{w w':World}{G G':aK}{β fI:List kO}{ρ:Operand->Value}{o:Oper}
structure FA (w:World)(G:aK)(st:aj)(G':aK)(bK:aj):Prop where
 iu:pF w G w G'
 inv:Inv w G' bK
 eH:∀b,bS b G'.ls bK<=bS b G.ls st
 sB:∀b,bS b G.ls st=0->G'.kg b=G.kg b
theorem FA.refl {st:aj}(hI:Inv w G st):FA w G st G st:=⟨pF.refl w G,hI,λ_=>Nat.le_refl _,λ_ _=>rfl⟩
theorem FA.trans {G1 G2:aK}{st kV lf:aj}(h:FA w G st G1 kV)(k:FA w G1 kV G2 lf):FA w G st G2 lf:=
 ⟨h.iu.trans k.iu,k.inv,λb=>Nat.le_trans (k.eH b) (h.eH b),λb hb=>(k.sB b (by have:=h.eH b;omega)).trans (h.sB b hb)⟩
mutual
theorem sG:∀a:AV,a.an=true->a.view.an=true
 |.own _ _,_=>by simp[AV.view,AV.an]
 |.raw _ _,_=>by simp[AV.view,AV.an]
 |.agg cs,h=>by simp only[AV.view,AV.an]at *;exact mM cs h
 |.fm cs,h=>by simp only[AV.view,AV.an]at *;exact mM cs h
 |.undef,h|.gone,h|.bool _,h|.int _ _,h|.str _,h|.dY,h|.U,h|.eX,h|.gD,h|.jj,h|.cN _ _,h|.emp,h|.mu _ _,h|.ptr _ _ _ _,h|.nJ _ _ _ _,h|.map _,h|.fn _ _ _,h=>by simpa [AV.view] using h
theorem mM:∀cs:List AV,AV.ah cs=true->AV.ah (AV.cy cs)=true
 |[],_=>rfl
 |c::cs,h=>by
  simp only[AV.ah,Bool.and_eq_true]at h
  simp only[AV.cy,AV.ah,sG c h.1,mM cs h.2,Bool.and_self]
end
theorem aL.xL {a:AV}{v:Value}(h:aL w G a v)(hs:pF w G w' G')(hn:a.bR=true):aL w' G' a v:=h.iu hs λb hb=>by rw[dN b a v hn]at hb;omega
def jE (sz bP:Nat):Loc:=⟨some ⟨0,0,none⟩,0,0,sz,bP+1,false,[]⟩
theorem Ed (sz bP:Nat):nC w G (.rows (bP+1) sz []) (jE sz bP):=
 ⟨rfl,rfl,by simp[fits],by simp,rfl,rfl,rfl,λi r xs h=>by simp at h,.inl ⟨rfl,rfl,rfl⟩⟩
theorem C1 {st:aj}(hI:Inv w G st){id bP sz:Nat}{rows:List (List AV)}{loc:Loc}(eG:st[id]?=some (.rows bP sz rows))(hl:G.ls[id]?=some loc)(yJ:loc.mp=false)(xz:loc.bP=bP) :
  FA w G st (G.at id (jE sz bP)) (st.set id (.rows (bP+1) sz []))/\∀b,bS b (G.at id (jE sz bP)).ls (st.set id (.rows (bP+1) sz []))+gu b loc (.rows bP sz rows)=bS b G.ls st:=by
 have hs:pF w G w (G.at id (jE sz bP)):=IF hl (by simp only[jE];omega) λh=>by
  rcases h with h|h
  ·simp only[jE]at h;omega
  ·rw[yJ]at h;cases h
 have hc:∀b,bS b (G.at id (jE sz bP)).ls (st.set id (.rows (bP+1) sz []))+gu b loc (.rows bP sz rows)=bS b G.ls st:=λb=>by
  have:=sA b G.ls st id loc _ (jE sz bP) (.rows (bP+1) sz []) hl eG
  have h0:gu b (jE sz bP) (.rows (bP+1) sz [])=0:=by simp[gu,jE,Loc.iQ,eM]
  rw[h0]at this
  exact this
 exact⟨⟨hs,zK hI hs rfl (λ_ _ _ b _ _ _ _=>⟨rfl,rfl⟩) (Ed sz bP) hI.kP,λb=>by have:=hc b;omega,λ_ _=>rfl⟩,hc⟩
def aK.zu (G:aK)(b:Nat):aK:=⟨G.ls,λb'=>if b'=b then none else G.kg b'⟩
theorem F5 {st:aj}(hI:Inv w G st){b:Nat}(hb:G.kg b=some 0)(h0:bS b G.ls st=0):pF w G w (G.zu b)/\Inv w (G.zu b) st:=by
 have hs:pF w G w (G.zu b):=⟨λb' o hi=>⟨rfl,hi.1,λp hp=>by
  simp only[aK.zu]at hp
  split at hp
  ·cases hp
  ·exact hi.2 p hp⟩,AF G⟩
 refine⟨hs,sE hI hs rfl (λb' kW=>⟨?_,rfl⟩) λb' p hp=>?_⟩
 ·simp only[aK.zu];rw[if_neg];intro e;subst e;omega
 ·simp only[aK.zu]at hp
  split at hp
  ·cases hp
  ·exact hI.kP b' p hp
theorem F6 {sz b off cap:Nat}{rows:List (List AV)}{vals:List (List Value)}(bY:fits sz rows=true)(gK:∀r∈rows,AV.aH r=true)(hY:∀r∈rows,AV.dj r=true)(mU:∀r∈rows,AV.ah r=true)
  (hlen:vals.length=rows.length) (aaL:∀(i:Nat) r xs,rows[i]?=some r->vals[i]?=some xs->bV w G r xs) (eJ:rows.length<=cap) (hb:b<w.heap.size) (ht:G.kg b=none)
  (cW:∀(i:Nat) xs (j:Nat) x,vals[i]?=some xs->xs[j]?=some x->w.cell? ⟨b,off+(i*sz+j),none⟩=some x):aL w G (.cN sz rows) (.slice (some ⟨b,off,none⟩) rows.length cap):=by
 have key:∀(i:Nat) r (j:Nat) c,rows[i]?=some r->r[j]?=some c->∃v,w.cell? ⟨b,off+(i*sz+j),none⟩=some v/\aL w G c v:=by
  intro i r j c h1 h2
  have hi:i<vals.length:=by rw[hlen];exact(List.getElem?_eq_some_iff.1 h1).1
  have hv:=List.getElem?_eq_getElem hi
  obtain⟨e1,e2⟩:=aaL i r _ h1 hv
  have hj:j<vals[i].length:=by rw[<-e1];exact(List.getElem?_eq_some_iff.1 h2).1
  exact⟨_,cW i _ j _ hv (List.getElem?_eq_getElem hj),e2 j c _ h2 (List.getElem?_eq_getElem hj)⟩
 refine .cN sz rows ⟨b,off,none⟩ cap rfl eJ bY hY mU gK (λi r j c h1 h2=>⟨⟨hb,λp hp=>by simp only at hp;rw[ht]at hp;cases hp⟩,?_⟩) λi r j c v h1 h2 h3=>?_
 ·obtain⟨v,h,_⟩:=key i r j c h1 h2;exact⟨v,h⟩
 ·obtain⟨v',h,h'⟩:=key i r j c h1 h2
  rw[h]at h3;cases h3;exact h'
theorem IT {wl:Nat}{st bK:aj}{a a':AV}{v:Value}(hI:Inv w G st)(hX:∀b,bS b G.ls st<=1)(h:aL w G a v)(hf:pC wl a st=some (a',bK)) :
  ∃G',FA w G st G' bK/\aL w G' a' v/\a'.bR=true/\a'.an=true/\a'.cv=true:=by
 unfold pC at hf
 split at hf
 ·rename_i id bP
  split at hf
  ·rename_i v0 sz rows eG
   split at hf
   ·rename_i hc
    simp only[Bool.and_eq_true,decide_eq_true_eq,Bool.not_eq_true',List.all_eq_true]at hc
    obtain⟨⟨⟨rfl,mU⟩,jH⟩,_⟩:=hc
    cases hf
    obtain⟨loc,hl,yJ,xz,gn⟩:=hI.loc eG
    cases h with
    |mu _ _ _ loc' hp nA Cr he=>
    rw[hl]at nA;cases nA
    have cw:=he (by omega)
    subst cw
    rcases gn.nB with⟨_,p8,_⟩|⟨b,off,c,e',rQ,eJ,eu,dL,hlen,gq,cW⟩
    ·subst p8;simp at jH
    obtain⟨f1,f2⟩:=C1 hI eG hl yJ xz
    have eF:loc.iQ=some b:=by unfold Loc.iQ;rw[if_neg (by omega),rQ];rfl
    have h0:bS b (G.at id (jE sz v0)).ls (st.set id (.rows (v0+1) sz []))=0:=by
     have h1:=f2 b
     have h2:=hX b
     simp only[gu,eF,if_true]at h1
     omega
    obtain⟨g1,g2⟩:=F5 f1.inv (b:=b) (by exact gq) h0
    refine⟨(G.at id (jE sz v0)).zu b,⟨f1.iu.trans g1,g2,f1.eH,λb' kW=>?_⟩,?_,by simp[AV.bR],by simp[AV.an],by simp[AV.cv]⟩
    ·simp only[aK.zu,aK.at]
     rw[if_neg]
     intro e;subst e
     have h1:=f2 b'
     simp only[gu,eF,if_true]at h1
     omega
    ·rw[rQ,gn.len,show rows.length=(rows.map AV.cy).length by simp]
     refine F6 (vals:=loc.vals) (bZ.2 λr hr=>?_) (λr hr=>?_) (λr hr=>?_) (λr hr=>?_) (by simpa using gn.p6) (λi r xs h1 h2=>?_) (by simpa using hlen) (Array.getElem?_eq_some_iff.1 eu).1 (by simp[aK.zu]) cW
     ·obtain⟨r',uA,rfl⟩:=List.mem_map.1 hr
      rw[lz];exact bZ.1 gn.fit r' uA
     ·obtain⟨r',uA,rfl⟩:=List.mem_map.1 hr
      rw[oH];exact gn.zG r' uA
     ·obtain⟨r',uA,rfl⟩:=List.mem_map.1 hr
      exact fB r'
     ·obtain⟨r',uA,rfl⟩:=List.mem_map.1 hr
      exact mM r' (mU r' uA)
     ·simp only[List.getElem?_map,Option.map_eq_some_iff]at h1
      obtain⟨r',h1,rfl⟩:=h1
      refine(gn.qo i r' xs h1 h2).view.mono (f1.iu.trans g1) λb' kW=>?_
      rw[cU b' _ _ (fB r')]at kW;omega
   ·cases hf
  ·cases hf
 ·split at hf
  ·rename_i hc
   simp only[Bool.and_eq_true]at hc
   cases hf
   exact⟨G,FA.refl hI,h.view,qL a,sG a hc.1,by rw[yO];exact hc.2⟩
  ·cases hf
theorem AM {wl:Nat}:∀{l l':List AV}{xs:List Value}{G:aK}{st bK:aj},Inv w G st->(∀b,bM b l xs+bS b G.ls st<=1)->bV w G l xs->jZ wl l st=some (l',bK)->
  ∃G',FA w G st G' bK/\bV w G' l' xs/\AV.dj l'=true/\AV.ah l'=true/\AV.aH l'=true
 |[],l',xs,G,st,bK,hI,hX,h,hf=>by
  simp only[jZ,Option.some.injEq,Prod.mk.injEq]at hf
  obtain⟨rfl,rfl⟩:=hf
  exact⟨G,FA.refl hI,h,rfl,rfl,rfl⟩
 |a::l,l',xs,G,st,bK,hI,hX,h,hf=>by
  simp only[jZ]at hf
  split at hf
  ·rename_i a1 kV h1
   split at hf
   ·rename_i l2 lf h2
    cases hf
    cases xs with
    |nil=>have:=h.1;simp at this
    |cons x xs=>
    obtain⟨G1,f1,f2,f3,f4,f5⟩:=IT hI (λb=>by have:=hX b;omega) (h.2 0 a x rfl rfl) h1
    have NO:bV w G l xs:=⟨by simpa using h.1,λi c v e1 e2=>h.2 (i+1) c v (by simpa using e1) (by simpa using e2)⟩
    have hX1:∀b,bM b l xs+bS b G1.ls kV<=1:=λb=>by
     have e1:=hX b
     have e2:=f1.eH b
     simp only[bM]at e1
     omega
    obtain⟨G2,g1,g2,g3,g4,g5⟩:=AM f1.inv hX1 (NO.mono f1.iu λb hb=>⟨f1.sB b (by have:=hX b;simp only[bM]at this;omega),rfl⟩) h2
    refine⟨G2,f1.trans g1,⟨by simp[g2.1],λi c v e1 e2=>?_⟩,by simp[AV.dj,f3,g3],by simp[AV.ah,f4,g4],?_⟩
    ·cases i with
     |zero=>simp at e1 e2;subst e1;subst e2;exact f2.xL g1.iu f3
     |succ i=>exact g2.2 i c v (by simpa using e1) (by simpa using e2)
    ·simp only[AV.aH,List.all_cons,Bool.and_eq_true]at g5 ⊢
     exact⟨f5,g5⟩
   ·cases hf
  ·cases hf
theorem sH {wl:Nat}:∀{l l':List AV}{st bK:aj},jZ wl l st=some (l',bK)->l'.length=l.length
 |[],l',st,bK,hf=>by simp only[jZ,Option.some.injEq,Prod.mk.injEq]at hf;obtain⟨rfl,_⟩:=hf;rfl
 |a::l,l',st,bK,hf=>by
  simp only[jZ]at hf
  split at hf
  ·split at hf
   ·rename_i h2;cases hf;simp[sH h2]
   ·cases hf
  ·cases hf
theorem yQ {wl:Nat}:∀{l l':List (List AV)}{xs:List (List Value)}{G:aK}{st bK:aj},Inv w G st->(∀b,eM b l xs+bS b G.ls st<=1)->l.length=xs.length->(∀(i:Nat) r x,l[i]?=some r->xs[i]?=some x->bV w G r x)->kF wl l st=some (l',bK)->
  ∃G',FA w G st G' bK/\l'.length=l.length/\(∀(i:Nat) r x,l'[i]?=some r->xs[i]?=some x->bV w G' r x)/\(∀(i:Nat) r r',l[i]?=some r->l'[i]?=some r'->r'.length=r.length)/\(∀r∈l',AV.dj r=true)/\(∀r∈l',AV.ah r=true)/\(∀r∈l',AV.aH r=true)
 |[],l',xs,G,st,bK,hI,hX,hl,h,hf=>by
  simp only[kF,Option.some.injEq,Prod.mk.injEq]at hf
  obtain⟨rfl,rfl⟩:=hf
  exact⟨G,FA.refl hI,rfl,h,λi r r' e=>by simp at e,by simp,by simp,by simp⟩
 |a::l,l',xs,G,st,bK,hI,hX,hl,h,hf=>by
  simp only[kF]at hf
  split at hf
  ·rename_i a1 kV h1
   split at hf
   ·rename_i l2 lf h2
    cases hf
    cases xs with
    |nil=>simp at hl
    |cons x xs=>
    obtain⟨G1,f1,f2,f3,f4,f5⟩:=AM hI (λb=>by have:=hX b;simp only[eM]at this;omega) (h 0 a x rfl rfl) h1
    have hX1:∀b,eM b l xs+bS b G1.ls kV<=1:=λb=>by
     have e1:=hX b
     have e2:=f1.eH b
     simp only[eM]at e1
     omega
    obtain⟨G2,g1,g2,g3,g4,g5,g6,g7⟩:=yQ f1.inv hX1 (by simpa using hl) (λi r y e1 e2=>(h (i+1) r y (by simpa using e1) (by simpa using e2)).mono f1.iu λb hb=>⟨f1.sB b (by
     have e3:=hX b
     have e4:=tO b l xs i r y e1 e2
     simp only[eM]at e3;omega),rfl⟩) h2
    refine⟨G2,f1.trans g1,by simp[g2],λi r y e1 e2=>?_,λi r r' e1 e2=>?_,λr hr=>?_,λr hr=>?_,λr hr=>?_⟩
    ·cases i with
     |zero=>simp at e1 e2;subst e1;subst e2;exact f2.mono g1.iu λb hb=>by rw[cU b _ _ f3]at hb;omega
     |succ i=>exact g3 i r y (by simpa using e1) (by simpa using e2)
    ·cases i with
     |zero=>simp at e1 e2;subst e1;subst e2;exact sH h1
     |succ i=>exact g4 i r r' (by simpa using e1) (by simpa using e2)
    ·rcases List.mem_cons.1 hr with rfl|hr
     ·exact f3
     ·exact g5 r hr
    ·rcases List.mem_cons.1 hr with rfl|hr
     ·exact f4
     ·exact g6 r hr
    ·rcases List.mem_cons.1 hr with rfl|hr
     ·exact f5
     ·exact g7 r hr
   ·cases hf
  ·cases hf
theorem vp {wl:Nat}{st bK:aj}{a a':AV}{v:Value}(hI:Inv w G st)(hX:∀b,bS b G.ls st<=1)(h:aL w G a v)(hf:jq wl a st=some (a',bK)) :
  ∃G',FA w G st G' bK/\aL w G' a' v/\a'.bR=true:=by
 unfold jq at hf
 split at hf
 ·rename_i id bP
  split at hf
  ·rename_i v0 sz rows eG
   split at hf
   ·rename_i hc
    simp only[Bool.and_eq_true,decide_eq_true_eq,Bool.not_eq_true']at hc
    obtain⟨⟨rfl,jH⟩,_⟩:=hc
    split at hf
    ·rename_i dy kV Fy
     cases hf
     obtain⟨loc,hl,yJ,xz,gn⟩:=hI.loc eG
     cases h with
     |mu _ _ _ loc' hp nA Cr he=>
     rw[hl]at nA;cases nA
     have cw:=he (by omega)
     subst cw
     rcases gn.nB with⟨_,p8,_⟩|⟨b,off,c,e',rQ,eJ,eu,dL,hlen,gq,cW⟩
     ·subst p8;simp at jH
     obtain⟨f1,f2⟩:=C1 hI eG hl yJ xz
     have eF:loc.iQ=some b:=by unfold Loc.iQ;rw[if_neg (by omega),rQ];rfl
     have hX1:∀b',eM b' rows loc.vals+bS b' (G.at id (jE sz v0)).ls (st.set id (.rows (v0+1) sz []))<=1:=λb'=>by
      have h1:=f2 b'
      have h2:=hX b'
      simp only[gu]at h1
      omega
     obtain⟨G2,g1,g2,g3,g4,g5,g6,g7⟩:=yQ f1.inv hX1 gn.p6.symm (λi r y e1 e2=>(gn.qo i r y e1 e2).mono f1.iu λb _=>⟨rfl,rfl⟩) Fy
     have h0:bS b (G.at id (jE sz v0)).ls (st.set id (.rows (v0+1) sz []))=0:=by
      have h1:=f2 b
      have h2:=hX b
      simp only[gu,eF,if_true]at h1
      omega
     have ht2:G2.kg b=some 0:=(g1.sB b h0).trans gq
     obtain⟨k1,k2⟩:=F5 g1.inv ht2 (by have:=g1.eH b;omega)
     refine⟨G2.zu b,⟨(f1.iu.trans g1.iu).trans k1,k2,λb'=>Nat.le_trans (g1.eH b') (f1.eH b'),λb' kW=>?_⟩,?_,by simp[AV.bR]⟩
     ·have hbb:b'≠b:=by
       intro e;subst e
       have h1:=f2 b'
       simp only[gu,eF,if_true]at h1
       omega
      simp only[aK.zu]
      rw[if_neg hbb]
      exact g1.sB b' (by have:=f1.eH b';omega)
     ·rw[rQ,gn.len,<-g2]
      refine F6 (vals:=loc.vals) (bZ.2 λr hr=>?_) g7 g5 g6 (by rw[gn.p6,g2]) (λi r xs h1 h2=>(g3 i r xs h1 h2).mono k1 λb' kW=>by rw[cU b' _ _ (g5 r (cD h1))]at kW;omega) (by rw[g2];exact hlen) (Array.getElem?_eq_some_iff.1 eu).1 (by simp[aK.zu]) cW
      obtain⟨i,hi,rfl⟩:=List.mem_iff_getElem.1 hr
      have n8:i<rows.length:=by rw[<-g2];exact hi
      rw[g4 i rows[i] dy[i] (List.getElem?_eq_getElem n8) (List.getElem?_eq_getElem hi)]
      exact bZ.1 gn.fit _ (List.getElem_mem n8)
    ·cases hf
   ·cases hf
  ·cases hf
 ·cases hf
  cases h
  exact⟨G,FA.refl hI,.U,rfl⟩
 ·cases hf
end Ax
namespace Ax
open Go
variable {P:Program}{w w':World}{G G':aK}{β fI:List kO}{ρ:Operand->Value}{o:Oper}
theorem v7 {sz:Nat}{α:Type}:∀(n:Nat)(rows:List (List α)),(∀r∈rows,r.length=sz)->rows.flatten.drop (n*sz)=(rows.drop n).flatten
 |0,rows,_=>by simp
 |n+1,[],_=>by simp
 |n+1,r::rows,h=>by
  have h0:r.length=sz:=h r (by simp)
  have ih:=v7 n rows λx hx=>h x (by simp[hx])
  rw[List.drop_succ_cons,List.flatten_cons,<-ih,Nat.succ_mul,Nat.add_comm,<-List.drop_drop,<-h0,List.drop_left]
theorem V4 {t tx ty e:TypeId}{sz:Nat}(ht:P.underlying t=some (.slice e))(dL:ck P e sz=true)(hk:(∃e',P.underlying tx=some (.slice e'))\/P.underlying tx=some .string)
  {st:aj} {bx:aS} (hI:Inv w G st) (hB:jg w G β bx) {cO:Nat->Nat} (hX:∀b,cO b+fj b β bx+bS b G.ls st<=1)
  {s x:AV} {vs vx:Value} (hs:aL w G s vs) (hx:aL w G x vx) {wl aa:Nat} {bK:aj} {eI:aS} {r:dK} (ha:aI wl aa (.copy sz) [.val s,.val x] st bx=some (r,bK,eI)) :
  ∃v w' G',(Builtin.copy_ #[t,tx] ty #[vs,vx]).run P w=.ok v w'/\iz w G β st bx cO w' G' β bK eI r v:=by
 obtain⟨i,hi,dL⟩:∃i,P.info? e=some i/\i.size=sz:=by
  unfold ck at dL
  split at dL
  ·rename_i i hi;exact⟨i,hi,by simpa using dL⟩
  ·cases dL
 unfold aI at ha
 simp only at ha
 split at ha
 ·rename_i id bP x2 heq
  simp only[List.cons.injEq,dK.val.injEq,and_true]at heq
  obtain⟨rfl,rfl⟩:=heq
  split at ha
  ·rename_i v iI old new eG qt
   split at ha
   ·rename_i hc
    simp only[Bool.and_eq_true,decide_eq_true_eq]at hc
    obtain⟨⟨⟨⟨⟨rfl,rfl⟩,bY⟩,hle⟩,_⟩,_⟩:=hc
    cases ha
    obtain⟨news,dc,lY,gK,hY,_⟩:=tP hI hx qt bY hk
    have D8:∀b xs,bM b new.flatten xs=0:=λb xs=>cU b _ _ ((cn _).2 λx hx=>by
     obtain⟨r,hr,hx⟩:=List.mem_flatten.1 hx
     exact(cn r).1 (hY r hr) x hx)
    obtain⟨loc,hl,yJ,xz,gn⟩:=hI.loc eG
    cases hs with
    |mu _ _ _ loc' hp nA Cr he=>
    rw[hl]at nA;cases nA
    have cw:=he (by omega)
    subst cw
    obtain⟨Fy,Sk,hfv,D9⟩:=gn.flat
    have Zd:=bZ.1 gn.fit
    have M1:loc.vals.flatten.length=old.length*iI:=by rw[<-Fy.1];exact eA old Zd
    have M3:news.length=new.length*iI:=lY.newsLen
    have V5:Nat.min new.length loc.len=new.length:=by rw[gn.len];exact Nat.min_eq_left hle
    by_cases jH:new=[]
    ·subst jH
     have h0:news=[]:=List.eq_nil_of_length_eq_zero (by simpa using M3)
     subst h0
     refine⟨.int .i64 0,w,G,?_,?_⟩
     ·have h1:=lY.len
      have h2:=lY.cells
      simp only[List.length_nil]at h1 h2 V5
      cases rQ:loc.a<;>simp[Builtin.copy_,run_underlying ht,Go.sizeOf,typeInfo,hi,dL,h1,h2,V5,storeCells,goInt]
     ·have:st.set id (.rows v iI ([]++old.drop 0))=st:=fU st id _ (by simpa using eG)
      simp only[List.length_nil]at this ⊢
      rw[this]
      exact iz.quiet hI hB (.int _ _) λb=>by simp[cg,eH]
    ·have hn:0<new.length:=List.length_pos_iff.2 jH
     rcases gn.nB with⟨h0,h1,_⟩|⟨b,off,c,e',rQ,eJ,eu,afg,hlen,gq,cW⟩
     ·rw[h1]at hle;simp at hle;exact absurd hle jH
     have IQ:off+news.length<=c.size:=by
      rw[M3]
      have:new.length*iI<=loc.cap*iI:=Nat.mul_le_mul_right _ (by omega)
      omega
     have zp:=fS (P:=P) b off e' news c w eu IQ lY.one
     have e1:(Builtin.copy_ #[t,tx] ty #[.slice loc.a loc.len loc.cap,vx]).run P w=.ok (.int .i64 new.length) (w.setRow b (af c.toList off news).toArray):=by
      have h1:=lY.len
      have h2:=lY.cells
      simp[Builtin.copy_,run_underlying ht,Go.sizeOf,typeInfo,hi,dL,h1,h2,V5,rQ,zp,goInt]
     have iN:=sF bY (b:=old.drop new.length) (by rw[bZ];exact λr hr=>Zd r (List.mem_of_mem_drop hr))
     have UX:(new++old.drop new.length).length=old.length:=by simp;omega
     have pL:(new++old.drop new.length).flatten=new.flatten++old.flatten.drop (new.length*iI):=by rw[List.flatten_append,v7 _ _ Zd]
     let CE:Loc:=⟨some ⟨b,off,none⟩,loc.cap,(new++old.drop new.length).length,iI,v,false,oE iI (new++old.drop new.length).length (news++loc.vals.flatten.drop (new.length*iI))⟩
     have CA:∀(i:Nat) l,G.ls[i]?=some l->∃Sp,(G.at id CE).ls[i]?=some Sp/\l.bP<=Sp.bP/\(l.bP=Sp.bP\/l.mp=true->Sp.hd=l.hd):=
      AG hl (by simp only[CE];omega) λ_=>by simp only[CE,Loc.hd,rQ,UX,gn.len,gn.size,yJ]
     have Ry:(G.at id CE).ls[id]?=some CE:=by
      simp only[aK.at];rw[List.getElem?_set,if_pos rfl,if_pos (List.getElem?_eq_some_iff.1 hl).1]
     have hW:Wr w G (w.setRow b (af c.toList off news).toArray) ⟨(G.at id CE).ls,λb'=>if b'=b then some 0 else G.kg b'⟩ b:=
      AH eu IQ gq (Nat.zero_le _) (Nat.le_refl _) CA
     have eF:loc.iQ=some b:=by unfold Loc.iQ;rw[if_neg (by omega),rQ];rfl
     refine⟨_,_,⟨(G.at id CE).ls,λb'=>if b'=b then some 0 else G.kg b'⟩,e1,?_⟩
     refine pM hI hB hX hl eG hW.iu rfl ⟨rfl,rfl,lE (b:=b) (off:=off) (c:=(af c.toList off news).toArray) (e:=e') (xs:=news++loc.vals.flatten.drop (new.length*iI)) iN (mL gK λr hr=>gn.zG r (List.mem_of_mem_drop hr)) ?_ rfl rfl rfl rfl eJ (setRow_heap w b c _ e' (0,0) eu) (by rw[List.size_toArray,cZ];simpa using afg) (by rw[UX];exact hlen) (by simp) λk x hk=>?_⟩
      (hW.kP hI) (λb' _ kW=>hW.iy λe=>kW (by rw[eF,e])) (by simp) rfl rfl (.int _ _) λb'=>?_
     ·rw[pL]
      refine(dc.mono hW.iu λb' kW=>by rw[D8]at kW;omega).append ((Fy.drop _).mono hW.iu λb' kW=>hW.iy λe=>?_)
      subst e
      have h3:=tN b' (new.length*iI) _ _ Fy.1
      rw[Sk]at h3
      have h1:=hX b'
      have h2:=lC b' G.ls st id loc _ hl eG
      simp only[gu,eF,if_true]at h2
      omega
     ·rw[pK eu IQ]
      by_cases FZ:k<news.length
      ·rw[List.getElem?_append_left FZ]at hk
       rw[if_pos (by omega),show off+k-off=k by omega]
       exact hk
      ·rw[List.getElem?_append_right (by omega),List.getElem?_drop]at hk
       rw[if_neg (by omega)]
       have:=D9 b off cW _ x hk
       rw[show new.length*iI+(k-news.length)=k by omega]at this
       exact this
     ·have F0:CE.iQ=loc.iQ:=by
       rw[eF];simp only[CE];unfold Loc.iQ;rw[if_neg (show ¬loc.cap=0 by omega)];rfl
      simp only[cg,eH,gu]
      rw[F0]
      simp only[CE]
      rw[oF b' (new++old.drop new.length) _ (bZ.1 iN) (by rw[pL,List.length_append,List.length_append,dc.1,List.length_drop,List.length_drop,Fy.1]),pL,eL b' _ _ _ _ dc.1,D8]
      have:=tN b' (new.length*iI) _ _ Fy.1
      rw[Sk]at this
      omega
   ·cases ha
  ·cases ha
 ·cases ha
theorem v8:∀{rows:List (List AV)}{l:List UInt8},bytesOf rows=some l->rows=dM l
 |[],l,h=>by simp[bytesOf]at h;subst h;rfl
 |r::rows,l,h=>by
  unfold bytesOf at h
  split at h
  ·rename_i heq;cases heq
  ·rename_i n r' heq
   simp only[List.cons.injEq]at heq
   obtain⟨rfl,rfl⟩:=heq
   split at h
   ·rename_i hn
    split at h
    ·rename_i l' nA
     cases h
     have:=v8 nA
     subst this
     have h2:(((UInt8.ofNat n.toNat).toNat:Nat):Int)=n:=by
      rw[UInt8.toNat_ofNat']
      omega
     show _=[AV.int .u8 (((UInt8.ofNat n.toNat).toNat:Nat):Int)]::dM l'
     rw[h2]
    ·cases h
   ·cases h
  ·cases h
theorem foldl_push (l:List UInt8):∀acc:ByteArray,List.foldl (λb a=>b.push a) acc l=⟨(acc.data.toList++l).toArray⟩:=by
 induction l with
 |nil=>intro acc;simp
 |cons b l ih=>
  intro acc
  rw[List.foldl_cons,ih]
  simp
theorem Sv {s d e:TypeId}{x:Operand}(ho:o.op=.convert s d x)(hs:P.underlying s=some (.slice e))(he:P.underlying e=some (.int .u8))(hd:P.underlying d=some .string){st:aj}(hI:Inv w G st)
  {a:AV} (ha:aL w G a (ρ x)) {rows:List (List AV)} (hr:rowsOf st a=some rows) {l:List UInt8} (hl:bytesOf rows=some l):∃u,(execOp ρ o).run P w=.ok (.value u) w/\aL w G (.str l) u:=by
 have v9:=v8 hl
 subst v9
 have bY:fits 1 (dM l)=true:=by simp[fits,dM]
 have hb:di st a=some (dM l):=by
  unfold di
  split
  ·simp[rowsOf]at hr
  ·rw[hr]
   simp only[Option.some.injEq,dM,List.map_map]
   exact List.map_congr_left λ_ _=>rfl
  ·exact hr
 obtain⟨xs,dc,lY,_,_,_⟩:=tP hI ha hb bY (P:=P) (tx:=s) (.inl ⟨e,hs⟩)
 have UY:xs=l.map λb=>Value.int .u8 b.toNat:=by
  have Fy:(dM l).flatten=l.map λb=>AV.int .u8 b.toNat:=CY l
  rw[Fy]at dc
  apply List.ext_getElem?
  intro i
  rw[List.getElem?_map]
  cases hi:l[i]? with
  |none=>
   have:xs.length<=i:=by rw[<-dc.1];simpa using hi
   simpa using this
  |some b=>
   have h1:(l.map λb=>AV.int .u8 b.toNat)[i]?=some (.int .u8 b.toNat):=by rw[List.getElem?_map,hi];rfl
   have h2:i<xs.length:=by rw[<-dc.1];exact(List.getElem?_eq_some_iff.1 h1).1
   have h3:=dc.2 i _ _ h1 (List.getElem?_eq_getElem h2)
   rw[List.getElem?_eq_getElem h2,h3.eS]
   rfl
 subst UY
 have hlen:(dM l).length=l.length:=by simp[dM]
 rw[hlen]at lY
 have dA:(∃n c,ρ x=.slice none n c/\l=[])\/∃ad c,ρ x=.slice (some ad) l.length c:=by
  have h1:=lY.len w
  have h2:=lY.cells
  generalize ρ x=v at *
  cases a with
  |U=>cases ha;exact .inl ⟨_,_,rfl,by simp[rowsOf,dM]at hr;exact hr⟩
  |emp=>cases ha;exact .inr ⟨_,_,by simp[rowsOf,dM]at hr;subst hr;rfl⟩
  |cN s' r'=>cases ha;simp[rowsOf]at hr;subst hr;rw[hlen];exact .inr ⟨_,_,rfl⟩
  |own s' r'=>cases ha;simp[rowsOf]at hr;subst hr;rw[hlen];exact .inr ⟨_,_,rfl⟩
  |mu id bP=>
   cases ha with
   |mu _ _ _ loc hp Fz hv he2=>
    obtain⟨p,n,c,rfl⟩:=hp
    simp[Builtin.lenOf]at h1
    subst h1
    cases p with
    |some p=>exact .inr ⟨_,_,rfl⟩
    |none=>
     simp[Builtin.firstCells]at h2
     exact .inl ⟨_,_,rfl,h2⟩
  |_=>simp[rowsOf]at hr
 refine⟨.string ⟨l.toArray⟩,?_,.str _ _ (by simp)⟩
 rcases dA with⟨n,c,h1,rfl⟩|⟨ad,c,h1⟩
 ·simp[execOp,ho,convert,run_underlying hs,run_underlying hd,run_underlying he,h1,Conv.bytesToString]
  rfl
 ·have h2:=lY.cells
  rw[h1]at h2
  simp only[Builtin.firstCells,Nat.mul_one]at h2
  simp only[execOp,ho,convert,h1]
  simp[run_underlying hs,run_underlying hd,run_underlying he,Conv.bytesToString,h2,foldl_push]
end Ax
namespace Ax
open Go
variable {P:Program}{w w':World}{G G':aK}{β fI:List kO}{ρ:Operand->Value}{o:Oper}
theorem LI {α:Type}(r:List α)(k:Nat)(v:α)(h:k<r.length):af r k [v]=r.set k v:=by
 rw[iS _ _ _ (by simp;omega)]
 rw[List.set_eq_take_append_cons_drop,if_pos h]
 simp
theorem F7 (b:Nat):∀(r:List AV)(xs:List Value)(k:Nat)(v v':AV)(x:Value),r[k]?=some v->xs[k]?=some x->bM b (r.set k v') xs+eH b v x=bM b r xs+eH b v' x
 |[],_,_,_,_,_,h,_=>by simp at h
 |_::_,[],_,_,_,_,_,h=>by simp at h
 |r::rs,x::xs,0,v,v',x',h,k=>by simp at h k;subst h;subst k;simp only[List.set_cons_zero,bM];omega
 |r::rs,x::xs,i+1,v,v',x',h,k=>by
  have:=F7 b rs xs i v v' x' (by simpa using h) (by simpa using k)
  simp only[List.set_cons_succ,bM];omega
theorem F8 (G:aK)(ls:List Loc):pF w G w ⟨G.ls++ls,G.kg⟩ where
 No:=λ_ _ h=>⟨rfl,h⟩
 ids:=λid loc hl=>⟨loc,by
  rw[List.getElem?_append_left (List.getElem?_eq_some_iff.1 hl).1];exact hl,Nat.le_refl _,λ_=>rfl⟩
theorem Sw {st:aj}{loc:Loc}{ob:fh}(hI:Inv w G st)(h:nC w ⟨G.ls++[loc],G.kg⟩ ob loc):Inv w ⟨G.ls++[loc],G.kg⟩ (st++[ob]) where
 len:=by simp[hI.len]
 kP:=hI.kP
 obj:=λid Fx l h1 h2=>by
  simp only at h2
  by_cases Il:id<st.length
  ·rw[List.getElem?_append_left Il]at h1
   rw[List.getElem?_append_left (by rw[hI.len];exact Il)]at h2
   exact(hI.obj id Fx l h1 h2).iu (F8 G _) λb _=>⟨rfl,rfl⟩
  ·rw[List.getElem?_append_right (by omega)]at h1
   rw[List.getElem?_append_right (by rw[hI.len];omega),hI.len]at h2
   by_cases he:id-st.length=0
   ·rw[he]at h1 h2
    simp at h1 h2
    subst h1;subst h2;exact h
   ·obtain⟨n,hn⟩:∃n,id-st.length=n+1:=⟨id-st.length-1,by omega⟩
    rw[hn]at h1;simp at h1
def qR (w:World)(a:Addr)(sz:Nat)(rows:List (List AV)):List (List Value):=
 rows.mapIdx λi r=>r.mapIdx λj _=>(w.cell? ⟨a.block,a.off+(i*sz+j),none⟩).getD Go.undef
theorem Sx {st:aj}{id ve i k k2 sz iI:Nat}{rows dy:List (List AV)}{r:List AV}{u:Value}(hI:Inv w G st)(hp:aL w G (.ptr id ve i k) u)
  (eG:st[id]?=some (.rows ve sz rows)) (cP:rows[i]?=some r) (hv:r[k2]?=some (.raw iI dy)) :
  ∃G',FA w G st G' ((st++[fh.rows 0 iI dy]).set id (.rows ve sz (rows.set i (af r k2 [.mu st.length 0])))):=by
 obtain⟨loc,b,o,c,e,xs,hl,yJ,xz,gn,F1,rQ,eJ,eF,eu,hle,hlen,gq,IK,kj,cW⟩:=vZ hI hp eG cP
 have UM:k2<r.length:=(List.getElem?_eq_some_iff.1 hv).1
 obtain⟨x,hx⟩:∃x,xs[k2]?=some x:=⟨_,List.getElem?_eq_getElem (by rw[<-kj.1];exact UM)⟩
 have dc:=kj.2 _ _ _ hv hx
 cases dc with
 |raw _ _ a cap nS UZ bY hY mU tH hc hr ht hb=>
 obtain⟨cc,ce,M4,NP⟩:=hb
 have key:∀(i:Nat) r (j:Nat) c,dy[i]?=some r->r[j]?=some c->∃v,(qR w a iI dy)[i]?.bind (·[j]?)=some v/\w.cell? ⟨a.block,a.off+(i*iI+j),none⟩=some v:=by
  intro i r j c h1 h2
  obtain⟨v,hv⟩:=hc i r j c h1 h2
  exact⟨v,by simp[qR,h1,h2,hv],hv⟩
 have Rw:∀(i:Nat) xs (j:Nat) x,(qR w a iI dy)[i]?=some xs->xs[j]?=some x->w.cell? ⟨a.block,a.off+(i*iI+j),none⟩=some x:=by
  intro i xs j x h1 h2
  simp only[qR,List.getElem?_mapIdx,Option.map_eq_some_iff]at h1
  obtain⟨r,h3,rfl⟩:=h1
  simp only[List.getElem?_mapIdx,Option.map_eq_some_iff]at h2
  obtain⟨c,h4,rfl⟩:=h2
  obtain⟨v,hv⟩:=hc i r j c h3 h4
  rw[hv];rfl
 have aaO:(some a:Option Addr)=some ⟨a.block,a.off,none⟩:=by rw[<-nS]
 let loc':Loc:=⟨some a,cap,dy.length,iI,0,false,qR w a iI dy⟩
 let G':aK:=⟨G.ls++[loc'],G.kg⟩
 have Sy:pF w G w G':=F8 G _
 have hO:nC w G' (.rows 0 iI dy) loc':=by
  refine⟨rfl,rfl,bY,tH,rfl,rfl,by simp[loc',qR],λi r xs h1 h2=>⟨?_,λj c v h3 h4=>?_⟩,?_⟩
  ·simp only[loc',qR,List.getElem?_mapIdx,h1,Option.map_some,Option.some.injEq]at h2
   subst h2;simp
  ·have h5:=Rw i xs j v h2 h4
   exact(hr i r j c v h1 h3 h5).xL Sy ((cn r).1 (hY r (cD h1)) c (cD h3))
  ·rcases Nat.eq_zero_or_pos cap with h0|h0
   ·refine .inl ⟨h0,?_,rfl⟩
    cases dy with
    |nil=>rfl
    |cons _ _=>simp at UZ;omega
   ·exact .inr ⟨a.block,a.off,cc,ce,aaO,h0,M4,NP,UZ,ht,Rw⟩
 have hI1:Inv w G' (st++[fh.rows 0 iI dy]):=Sw hI hO
 have Il:id<st.length:=(List.getElem?_eq_some_iff.1 eG).1
 have zp:(st++[fh.rows 0 iI dy])[id]?=some (.rows ve sz rows):=by rw[List.getElem?_append_left Il];exact eG
 have RA:G'.ls[id]?=some loc:=by
  show (G.ls++[loc'])[id]?=_
  rw[List.getElem?_append_left (by rw[hI.len];exact Il)];exact hl
 have hmu:aL w G' (.mu st.length 0) (.slice (some a) dy.length cap):=by
  refine .mu _ _ _ loc' ⟨_,_,_,rfl⟩ ?_ (Nat.le_refl _) λ_=>rfl
  show (G.ls++[loc'])[st.length]?=_
  rw[List.getElem?_append_right (by rw[hI.len];exact Nat.le_refl _),hI.len]
  simp
 have IU:af r k2 [AV.mu st.length 0]=r.set k2 (.mu st.length 0):=LI r k2 _ UM
 have NQ:bV w G' r xs:=⟨kj.1,λj c v h1 h2=>(kj.2 j c v h1 h2).iu Sy λ_ _=>⟨rfl,rfl⟩⟩
 have qt:nC w G' (.rows ve sz (rows.set i (af r k2 [.mu st.length 0]))) loc:=by
  rw[IU]
  refine⟨yJ,xz,bZ.2 λr' uA=>?_,λr' uA=>?_,by simp[gn.len],gn.size,by simp[gn.p6],λi' r' Io h1 h2=>?_,.inr ⟨b,o,c,e,rQ,eJ,eu,hle,by simpa using hlen,gq,cW⟩⟩
  ·rcases List.mem_or_eq_of_mem_set uA with h|h
   ·exact bZ.1 gn.fit r' h
   ·rw[h,List.length_set];exact bZ.1 gn.fit r (cD cP)
  ·rcases List.mem_or_eq_of_mem_set uA with h|h
   ·exact gn.zG r' h
   ·rw[h,<-IU];exact iT (gn.zG r (cD cP)) (by simp[AV.aH,AV.cv]) (by simp;omega)
  ·rw[List.getElem?_set]at h1
   by_cases IM:i=i'
   ·subst IM
    rw[if_pos rfl]at h1
    split at h1
    ·cases h1
     rw[IK]at h2;cases h2
     refine⟨by rw[List.length_set];exact kj.1,λj c v h3 h4=>?_⟩
     rw[List.getElem?_set]at h3
     by_cases V6:k2=j
     ·subst V6
      rw[if_pos rfl,if_pos UM]at h3
      cases h3
      rw[hx]at h4;cases h4
      exact hmu
     ·rw[if_neg V6]at h3
      exact NQ.2 j c v h3 h4
    ·cases h1
   ·rw[if_neg IM]at h1
    have h3:=gn.qo i' r' Io h1 h2
    exact⟨h3.1,λj c v h4 h5=>(h3.2 j c v h4 h5).iu Sy λ_ _=>⟨rfl,rfl⟩⟩
 refine⟨G',Sy,zK hI1 (pF.refl w G') (fU _ _ _ RA).symm (λ_ _ _ _ _ _ _ _=>⟨rfl,rfl⟩) qt hI1.kP,λb'=>?_,λ_ _=>rfl⟩
 have h1:=sA b' G'.ls (st++[fh.rows 0 iI dy]) id loc _ loc (.rows ve sz (rows.set i (af r k2 [.mu st.length 0]))) RA zp
 rw[fU _ _ _ RA]at h1
 have h4:=qp b' rows loc.vals i r xs (af r k2 [.mu st.length 0]) xs cP IK
 rw[fU _ _ _ IK]at h4
 have h5:=F7 b' r xs k2 _ (.mu st.length 0) _ hv hx
 rw[<-IU]at h5
 have h6:bS b' G'.ls (st++[fh.rows 0 iI dy])=bS b' G.ls st+bS b' [loc'] [fh.rows 0 iI dy]:=pG b' _ _ _ _ hI.len
 have h7:bS b' [loc'] [fh.rows 0 iI dy]<=eH b' (.raw iI dy) (.slice (some a) dy.length cap):=by
  simp only[bS,gu,eH,yM b' dy _ hY,loc',Loc.iQ,Nat.add_zero]
  by_cases xJ:cap=0
  ·simp[xJ]
  ·simp[xJ]
 have h8:eH b' (.mu st.length 0) (.slice (some a) dy.length cap)=0:=by simp[eH]
 simp only[gu]at h1
 omega
end Ax
namespace Ax
open Go
variable {P:Program}{w w':World}{G G':aK}{β fI:List kO}{ρ:Operand->Value}{o:Oper}
def iA (P:Program)(ρ:Operand->Value)(o:Oper)(w:World)(G:aK)(β:List kO)(st:aj)(bx:aS)(cO:Nat->Nat)(nb:Option Nat)(r:dK)(bK:aj)(eI:aS):Prop:=
 ∃n v w' G' fI,(execOp ρ o).run P w=.ok n w'/\(n=.value v\/n=.skip/\v=undef)/\iz w G β st bx cO w' G' fI bK eI r v/\dQ nb β fI
theorem iA.quiet {st:aj}{bx:aS}{cO:Nat->Nat}{nb:Option Nat}{r:dK}(hI:Inv w G st)(hB:jg w G β bx){u:Value}(h:(execOp ρ o).run P w=.ok (.value u) w)(hr:jv w G β r u)(hc:∀b,cg b r u<=cO b):iA P ρ o w G β st bx cO nb r st bx:=
 ⟨_,u,w,G,β,h,.inl rfl,iz.quiet hI hB hr hc,dQ.refl _ _⟩
theorem iA.bR {st:aj}{bx:aS}{cO:Nat->Nat}{nb:Option Nat}{a:AV}(hI:Inv w G st)(hB:jg w G β bx){u:Value}(h:(execOp ρ o).run P w=.ok (.value u) w)(hr:aL w G a u)(hn:a.bR=true):iA P ρ o w G β st bx cO nb (.val a) st bx:=
 iA.quiet hI hB h hr λb=>by simp only[cg,dN b a u hn];omega
theorem jD.LJ {vals:List dK}{xs:List Value}{vs:List AV}(h:jD w G β vals xs)(hv:iq vals=some vs):bV w G vs xs/\∀b,kh b vals xs=bM b vs xs:=by
 obtain⟨e1,e2,e3⟩:=h.vals hv
 exact⟨⟨e2,e3⟩,λb=>by rw[e1,Ap]⟩
theorem we {rows:List (List AV)}(h:rows.all AV.aH=true):∀r∈rows,AV.aH r=true:=by simpa using h
theorem F9 {rows:List (List AV)}(h:rows.all AV.ah=true):∀r∈rows,AV.ah r=true:=by simpa using h
theorem wg {sz:Nat}{p:AV->Prop}:∀(qs:List Nat)(vs:List AV)(rows dy:List (List AV)),(∀r∈rows,∀c∈r,p c)->(∀v∈vs,∀c∈v.cells,p c)->fo sz rows qs vs=some dy->∀r∈dy,∀c∈r,p c
 |[],[],rows,dy,hr,_,h=>by simp[fo]at h;subst h;exact hr
 |[],_::_,_,_,_,_,h=>by simp[fo]at h
 |_::_,[],_,_,_,_,h=>by simp[fo]at h
 |i::qs,v::vs,rows,dy,hr,hv,h=>by
  simp only[fo]at h
  split at h
  ·refine wg qs vs _ dy (λr hm=>?_) (λu hu=>hv u (by simp[hu])) h
   rcases List.mem_or_eq_of_mem_set hm with h1|h1
   ·exact hr r h1
   ·rw[h1];exact hv v (by simp)
  ·cases h
theorem Ga {v:AV}(h:v.bR=true):∀c∈v.cells,c.bR=true:=by
 cases v<;>simp_all [AV.cells,AV.bR]
 exact(cn _).1 h
theorem Gb (vs:List AV):∀v∈AV.cy vs,v.bR=true:=(cn _).1 (fB vs)
theorem AN {x:Option Operand}{d a:Int}{vals rest:List dK}{xs:List Value}(h:pA x.isSome d vals=some (a,rest))(hR:jD w G β vals (x.toList.map ρ++xs)):vm ρ x d a/\jD w G β rest xs:=by
 unfold pA at h
 cases x with
 |none=>simp at h;obtain⟨rfl,rfl⟩:=h;exact⟨.inl ⟨rfl,rfl⟩,by simpa using hR⟩
 |some y=>
  simp only[Option.isSome_some,if_true]at h
  split at h
  ·rename_i n r
   cases h
   simp only[Option.toList_some,List.map_cons,List.map_nil,List.cons_append,List.nil_append,jD,jv]at hR
   exact⟨.inr ⟨y,rfl,hR.1.eS⟩,hR.2⟩
  ·cases h
theorem tQ {c:Call}{t u:TypeId}(h2:c.argTypes.size=2)(h0:c.argTypes[0]?=some t)(h1:c.argTypes[1]?=some u):c.argTypes = #[t,u]:=by
 apply Array.ext_getElem?
 intro i
 match i with
 |0=>simpa using h0
 |1=>simpa using h1
 |i+2=>simp;omega
section
variable {S:Nat->Option aC}{so:aU}{vals:List dK}{wl aa:Nat}{st bK:aj}{bx eI:aS}{cO:Nat->Nat}{r:dK}
theorem Sz {t:TypeId}{x:Operand}{lo hi mx:Option Operand}{sd:Bool}{sz:Nat}(ho:o.op=.slice t x lo hi mx)(V8:mx.isSome=true->hi.isSome=true)
  (hu:match P.underlying t with|some (.slice e)=>(!sd&&ck P e sz)=true|some .string=>(sd && !mx.isSome)=true|_=>False) (hI:Inv w G st) (hB:jg w G β bx)
  (hR:jD w G β vals ((tM x lo hi mx).map ρ)) (hcO:∀b,kh b vals ((tM x lo hi mx).map ρ)<=cO b) (ha:aI wl aa (.slice sd lo.isSome hi.isSome mx.isSome sz) vals st bx=some (r,bK,eI)) :
  iA P ρ o w G β st bx cO none r bK eI:=by
 simp only[tM,List.map_cons,List.map_append]at hR
 unfold aI at ha
 simp only at ha
 split at ha
 ·rename_i a l
  obtain⟨RB,hRl⟩:=hR
  simp only[jv]at RB
  split at ha
  ·cases ha
  ·rename_i n hn
   split at ha
   ·cases ha
   ·rename_i lov l1 FB
    obtain⟨Ee,hR1⟩:=AN FB (xs:=hi.toList.map ρ++mx.toList.map ρ) (by simpa [List.append_assoc] using hRl)
    split at ha
    ·cases ha
    ·rename_i hiv l2 hhi
     obtain⟨Ef,hR2⟩:=AN hhi hR1
     split at ha
     ·rename_i hmx
      have afi:mx=none:=by cases mx<;>simp_all
      subst afi
      split at ha
      ·rename_i v hv
       cases ha
       unfold jo at hv
       split at hv
       ·rename_i s
        split at hv
        ·rename_i hc
         simp only[Bool.and_eq_true,decide_eq_true_eq]at hc
         obtain⟨⟨⟨_,h0⟩,h1⟩,h2⟩:=hc
         cases hv
         simp only[if_true,mc,Option.some.injEq]at hn
         subst hn
         have hus:P.underlying t=some .string:=by
          split at hu
          ·simp at hu
          ·assumption
          ·exact hu.elim
         obtain⟨u,e1,e2⟩:=IC ho hus RB Ee Ef h0 h1 h2
         exact iA.bR hI hB e1 e2 rfl
        ·cases hv
       ·simp only[Bool.and_true]at hv
        split at hv
        ·rename_i hc
         simp only[Bool.and_eq_true,decide_eq_true_eq]at hc
         obtain⟨rfl,rfl⟩:=hc
         cases hv
         simp only[mc,rowsOf]at hn
         cases hn
         split at hu
         ·rename_i e AO
          simp only[Bool.and_eq_true]at hu
          exact iA.bR hI hB (Ay ho AO hu.2 RB Ee Ef (.inl rfl)) .U rfl
         ·simp at hu
         ·exact hu.elim
        ·cases hv
       ·simp only[Bool.and_true]at hv
        split at hv
        ·rename_i hc
         simp only[Bool.and_eq_true,decide_eq_true_eq]at hc
         obtain⟨rfl,rfl⟩:=hc
         cases hv
         simp only[mc,rowsOf]at hn
         cases hn
         split at hu
         ·rename_i e AO
          simp only[Bool.and_eq_true]at hu
          obtain⟨u,e1,e2⟩:=yL ho AO hu.2 RB Ee Ef (.inl rfl)
          exact iA.bR hI hB e1 e2 rfl
         ·simp at hu
         ·exact hu.elim
        ·cases hv
       ·rename_i s rows
        simp only at hv
        split at hv
        ·rename_i hc
         simp only[Bool.and_eq_true,decide_eq_true_eq]at hc
         obtain⟨⟨⟨rfl,h0⟩,h1⟩,h2⟩:=hc
         cases hv
         simp only[mc,rowsOf]at hn
         cases hn
         split at hu
         ·rename_i e AO
          simp only[Bool.and_eq_true]at hu
          obtain⟨u,e1,e2⟩:=Aw ho AO hu.2 RB Ee Ef h0 h1 h2
          exact iA.bR hI hB e1 e2 rfl
         ·simp at hu
         ·exact hu.elim
        ·cases hv
       ·rename_i s rows
        simp only at hv
        split at hv
        ·rename_i hc
         simp only[Bool.and_eq_true,decide_eq_true_eq]at hc
         obtain⟨⟨⟨rfl,h0⟩,h1⟩,h2⟩:=hc
         cases hv
         simp only[mc,rowsOf]at hn
         cases hn
         split at hu
         ·rename_i e AO
          simp only[Bool.and_eq_true]at hu
          obtain⟨u,e1,e2⟩:=Aw ho AO hu.2 RB.view Ee Ef h0 h1 h2
          exact iA.bR hI hB e1 e2 rfl
         ·simp at hu
         ·exact hu.elim
        ·cases hv
       ·cases hv
      ·cases ha
     ·rename_i m hmx
      obtain⟨z,rfl⟩:∃z,mx=some z:=by cases mx<;>simp_all
      simp only[Option.toList_some,List.map_cons,List.map_nil,jD,jv]at hR2
      have hz:=hR2.1.eS
      split at ha
      ·rename_i v hv
       cases ha
       unfold jo at hv
       split at hv
       ·simp at hv
       ·simp only at hv
        split at hv
        ·rename_i hc
         simp only[Bool.and_eq_true,decide_eq_true_eq,beq_iff_eq]at hc
         obtain⟨⟨rfl,rfl⟩,rfl⟩:=hc
         cases hv
         simp only[mc,rowsOf]at hn
         cases hn
         split at hu
         ·rename_i e AO
          simp only[Bool.and_eq_true]at hu
          exact iA.bR hI hB (Ay ho AO hu.2 RB Ee Ef (.inr ⟨z,rfl,V8 rfl,hz⟩)) .U rfl
         ·simp at hu
         ·exact hu.elim
        ·cases hv
       ·simp only at hv
        split at hv
        ·rename_i hc
         simp only[Bool.and_eq_true,decide_eq_true_eq,beq_iff_eq]at hc
         obtain⟨⟨rfl,rfl⟩,rfl⟩:=hc
         cases hv
         simp only[mc,rowsOf]at hn
         cases hn
         split at hu
         ·rename_i e AO
          simp only[Bool.and_eq_true]at hu
          obtain⟨u,e1,e2⟩:=yL ho AO hu.2 RB Ee Ef (.inr ⟨z,rfl,V8 rfl,hz⟩)
          exact iA.bR hI hB e1 e2 rfl
         ·simp at hu
         ·exact hu.elim
        ·cases hv
       ·rename_i s rows
        simp only at hv
        split at hv
        ·rename_i hc
         simp only[Bool.and_eq_true,decide_eq_true_eq]at hc
         obtain⟨⟨rfl,rfl⟩,rfl⟩:=hc
         cases hv
         simp only[mc,rowsOf]at hn
         cases hn
         split at hu
         ·rename_i e AO
          simp only[Bool.and_eq_true]at hu
          obtain⟨u,e1,e2⟩:=Az ho AO hu.2 RB Ee Ef (V8 rfl) hz
          exact iA.bR hI hB e1 e2 rfl
         ·simp at hu
         ·exact hu.elim
        ·cases hv
       ·rename_i s rows
        simp only at hv
        split at hv
        ·rename_i hc
         simp only[Bool.and_eq_true,decide_eq_true_eq]at hc
         obtain⟨⟨rfl,rfl⟩,rfl⟩:=hc
         cases hv
         simp only[mc,rowsOf]at hn
         cases hn
         split at hu
         ·rename_i e AO
          simp only[Bool.and_eq_true]at hu
          obtain⟨u,e1,e2⟩:=Az ho AO hu.2 RB.view Ee Ef (V8 rfl) hz
          exact iA.bR hI hB e1 e2 rfl
         ·simp at hu
         ·exact hu.elim
        ·cases hv
       ·cases hv
      ·cases ha
     ·cases ha
 ·cases ha
end
end Ax
