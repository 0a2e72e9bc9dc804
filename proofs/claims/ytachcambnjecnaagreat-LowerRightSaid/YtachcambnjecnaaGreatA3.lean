/- The library of this proof, part 3: an abstract interpreter of the loaded code, and its soundness. -/
import Derived.Test.YtachcambnjecnaaGreatA2
import Derived.IntWalk

namespace Ax
open Go
variable {P:Program}{w w':World}{G G':aM}{β fQ:List k8}{ρ:Operand->Value}{o:Oper}
theorem qh {st:an}{bx:aX}{cO:Nat->Nat}(hI:Inv w G st)(hB:jq w G β bx)(hX:∀b,cO b+fC b β bx+bY b G.ls st<=1){id:Nat}{loc loc':Loc}{ob F0:fB}{e:dX}{v:Value}
  (hl:G.ls[id]?=some loc) (fm:st[id]?=some ob) (hs:qa w G w' G') (I3:G'.ls=G.ls.set id loc') (ov:nT w' G' F0 loc') (ht:∀b p,G'.kL b=some p->b<w'.heap.size)
  (Gn:∀b,b<w.heap.size->loc.iZ≠some b->dH w G w' G' b) (Oe:w.heap.size<=w'.heap.size) (IK:w'.os=w.os) (vr:w'.output=w.output) (dj:jF w' G' β e v)
  (hc:∀b,cj b e v+gz b loc' F0<=cO b+gz b loc ob+(if w.heap.size<=b then 1 else 0)):iG w G β st bx cO w' G' β (st.set id F0) bx e v:=by
 have fj:∀b,loc.iZ=some b->gz b loc ob ≥ 1:=by
  intro b hb
  cases ob<;>simp[gz,hb]
 refine⟨hs,z9 hI hs I3 (λi l WN b hi h1 h2 h3=>?_) ov ht,lA hB hs λb hb=>?_,dj,λb=>?_,λb hb aV=>?_,Oe,IK,vr⟩
 ·refine Gn b ((hI.obj i WN l h2 h1).held h3) λhb=>?_
  have h4:=fj b hb
  have h5:=Gi b G.ls st i id l WN loc ob hi h1 h2 hl fm
  have:=hX b
  omega
 ·refine Gn b (hB.held hb) λlO=>?_
  have h4:=fj b lO
  have h5:=lX b G.ls st id loc ob hl fm
  have:=hX b
  omega
 ·have h1:=tG b G.ls st id loc ob loc' F0 hl fm
  have h2:=hc b
  rw[I3]
  omega
 ·refine Gn b aV λlO=>?_
  have h4:=fj b lO
  have h5:=lX b G.ls st id loc ob hl fm
  omega
theorem tE.flat {sz:Nat}{rows:List (List AV)}{loc:Loc}(h:tE w G sz rows loc):b8 w G rows.flatten loc.vals.flatten/\(∀b,bR b rows.flatten loc.vals.flatten=eX b rows loc.vals)/\(∀r∈loc.vals,r.length=sz)/\
  ∀b off,(∀(i:Nat) xs (j:Nat) x,loc.vals[i]?=some xs->xs[j]?=some x->w.cell? ⟨b,off+(i*sz+j),none⟩=some x)->∀(k:Nat) x,loc.vals.flatten[k]?=some x->w.cell? ⟨b,off+k,none⟩=some x:=by
 have Ku:∀r∈loc.vals,r.length=sz:=λr hr=>by
  obtain⟨i,hi,rfl⟩:=List.mem_iff_getElem.1 hr
  have oM:i<rows.length:=by rw[<-h.qv];exact hi
  rw[<-(h.qP i rows[i] loc.vals[i] (List.getElem?_eq_getElem oM) (List.getElem?_eq_getElem hi)).1]
  exact b9.1 h.fit _ (List.getElem_mem oM)
 refine⟨rK rows loc.vals h.qv.symm h.qP,λb=>wX b rows loc.vals h.qv.symm λi r xs h1 h2=>(h.qP i r xs h1 h2).1,Ku,λb off hc k x hx=>?_⟩
 obtain⟨i,j,r,rfl,e2,e3⟩:=nC loc.vals k x Ku hx
 exact hc i r j x e2 e3
theorem Of {st:an}{bx:aX}{cO:Nat->Nat}(hI:Inv w G st)(hB:jq w G β bx){sz:Nat}{a:Option Addr}(nU:a.isSome=true) :
  ∃G',iG w G β st bx cO w G' β (st++[.rows 0 sz []]) bx (.val (.mu st.length 0)) (.slice a 0 0):=by
 have CU:∀(id:Nat) loc,G.ls[id]?=some loc->∃loc',(G.ls++[⟨a,0,0,sz,0,false,[]⟩])[id]?=some loc'/\loc.bU<=loc'.bU/\(loc.bU=loc'.bU\/loc.mp=true->loc'.hd=loc.hd):=λid loc h=>
  ⟨loc,by rw[List.getElem?_append_left (List.getElem?_eq_some_iff.1 h).1];exact h,Nat.le_refl _,λ_=>rfl⟩
 have hs:qa w G w ⟨G.ls++[⟨a,0,0,sz,0,false,[]⟩],G.kL⟩:=⟨λ_ _ h=>⟨rfl,h⟩,CU⟩
 refine⟨⟨G.ls++[⟨a,0,0,sz,0,false,[]⟩],G.kL⟩,hs,⟨by simp[hI.len],λid ob loc h1 h2=>?_,hI.k9⟩,lA hB hs λb _=>⟨rfl,rfl⟩,.mu _ _ _ ⟨a,0,0,sz,0,false,[]⟩ ⟨_,_,_,rfl⟩ ?_ (Nat.le_refl _) λ_=>rfl,λb=>?_,λb _ _=>⟨rfl,rfl⟩,Nat.le_refl _,rfl,rfl⟩
 ·by_cases IJ:id<st.length
  ·rw[List.getElem?_append_left IJ]at h1
   simp only at h2
   rw[List.getElem?_append_left (by rw[hI.len];exact IJ)]at h2
   exact(hI.obj id ob loc h1 h2).iB hs λb _=>⟨rfl,rfl⟩
  ·rw[List.getElem?_append_right (by omega)]at h1
   simp only at h2
   rw[List.getElem?_append_right (by rw[hI.len];omega),hI.len]at h2
   have h0:id-st.length=0:=by have:=(List.getElem?_eq_some_iff.1 h1).1;simp at this;omega
   rw[h0]at h1 h2
   simp at h1 h2
   subst h1;subst h2
   exact⟨rfl,rfl,by simp[fits],by simp,rfl,rfl,rfl,λi r xs h=>by simp at h,.inl ⟨rfl,rfl,nU⟩⟩
 ·simp only
  rw[List.getElem?_append_right (by rw[hI.len];exact Nat.le_refl _),hI.len];simp
 ·simp only[cj,eP]
  rw[qb b _ _ _ _ hI.len]
  have h0:bY b [⟨a,0,0,sz,0,false,[]⟩] [.rows 0 sz []]=0:=by simp[bY,gz,Loc.iZ,eX]
  rw[h0];omega
structure WQ (P:Program)(t tx ty e:TypeId)(sz bytes:Nat)(x:Value)(n:Nat)(news:List Value)(w:World):Prop where
 newsLen:news.length=n*sz
 nothing:n=0->∀base fO jz,fO<=jz->(Builtin.append_ #[t,tx] ty #[.slice base fO jz,x]).run P w=.ok (.slice base fO jz) w
 room:∀(b off fO jz:Nat) (cur:Array Value) (e0:TypeId),w.heap[b]?=some (.cells cur e0 (0,0))->fO+n<=jz->off+jz*sz<=cur.size->
  (Builtin.append_ #[t,tx] ty #[.slice (some ⟨b,off,none⟩) fO jz,x]).run P w=.ok (.slice (some ⟨b,off,none⟩) (fO+n) jz) (w.setRow b (af cur.toList (off+fO*sz) news).toArray)
 new:∀(base:Option Addr) (fO jz:Nat) (olds:List Value),(Builtin.firstCells sz fO (.slice base fO jz)).run P w.drew=.ok olds.toArray w.drew->olds.length=fO*sz->jz<fO+n->(fO+n)*bytes<=140737488355328->
  ∃cap c,(Builtin.append_ #[t,tx] ty #[.slice base fO jz,x]).run P w=.ok (.slice (some ⟨w.heap.size,0,none⟩) (fO+n) cap) (w.drew.alloc (.cells c e))/\fO+n<=cap/\cap*sz<=c.size/\
   ∀(k:Nat) v,(olds++news)[k]?=some v->c[k]?=some v
theorem Og {t tx ty e:TypeId}{sz bytes:Nat}{i:TypeInfo}{z:Value}(h:I4 P t tx e sz bytes i z){x:Value}{n:Nat}{news:List Value}(hs:Go.Src P sz tx x n news w):WQ P t tx ty e sz bytes x n news w where
 newsLen:=hs.newsLen
 nothing:=λh0 base fO jz hle=>by
  subst h0
  have hn:news=[]:=List.eq_nil_of_length_eq_zero (by simpa using hs.newsLen)
  subst hn
  exact run_append_nothing w t tx ty e i h.ht h.hi base fO jz hle x (by rw[h.dZ];exact hs)
 room:=λb off fO jz cur e0 hg h1 h2=>pg h b off fO jz cur e0 hg x n news hs h1 h2
 new:=λbase fO jz olds hold Ny hg hb=>pq h base fO jz olds hold Ny x n news hs hg hb
theorem Es (z:Array Value)(n sz:Nat)(hz:z.size=sz):(Builtin.zeroCells z n).toList=((Array.range (n*sz)).map (z[· % z.size]!)).toList:=by
 subst hz;rfl
theorem I5 {t tx ty e:TypeId}{sz bytes:Nat}{i:TypeInfo}{z:Value}(ht:P.underlying t=some (.slice e))(hk:∃k,P.underlying tx=some (.int k))(hi:P.info? e=some i)(hz:i.zero=some z)(dZ:i.size=sz)(S4:i.bytes=bytes)
  (NY:z.cells.size=sz) (pos:0<sz) (Ob:0<bytes) {n:Int} (h0:0<=n) (hr:n*bytes<=140737488355328) (w:World) (kP:∀u∈(Builtin.zeroCells z.cells n.toNat).toList,u.oneCell'=true) :
  WQ P t tx ty e sz bytes (.int .i64 n) n.toNat (Builtin.zeroCells z.cells n.toNat).toList w:=by
 obtain⟨k,hk⟩:=hk
 subst dZ;subst S4
 have hn:n<=140737488355328:=by
  have:n*1<=n*i.bytes:=Int.mul_le_mul_of_nonneg_left (by omega) (by omega)
  omega
 have hw:IntKind.i64.wrap n=n:=IntWalk.i64_in n ⟨by omega,by omega⟩
 have S8:¬n<0:=by omega
 have Ta:¬(281474976710656<n*i.bytes):=by omega
 have hlen:(Builtin.zeroCells z.cells n.toNat).toList.length=n.toNat*i.size:=by rw[Array.length_toList,size_zeroCells,NY]
 refine⟨hlen,λe0 base fO jz hle=>?_,λb off fO jz cur e0 hg h1 h2=>?_,λbase fO jz olds hold Ny hg hb=>?_⟩
 ·have CW:n=0:=by omega
  subst CW
  cases base<;>simp[Builtin.append_,run_underlying ht,run_underlying hk,Go.sizeOf,typeInfo,hi,asInt,asIntOf,hw,hle,storeCells]
 ·have hle:off+fO*i.size+n.toNat*i.size<=cur.size:=by
   have:(fO+n.toNat)*i.size<=jz*i.size:=Nat.mul_le_mul_right _ h1
   rw[Nat.add_mul]at this
   omega
  have fm:=fZ (P:=P) b (off+fO*i.size) e0 _ cur w hg (by rw[hlen];exact hle) kP
  by_cases WR:n.toNat*i.size=0
  ·have CW:(Builtin.zeroCells z.cells n.toNat).toList=[]:=List.eq_nil_of_length_eq_zero (by rw[hlen,WR])
   rw[CW]at fm ⊢
   simp[Builtin.append_,run_underlying ht,run_underlying hk,Go.sizeOf,typeInfo,hi,asInt,asIntOf,hw,S8,Ta,WR,h1,Addr.add_lit,fm]
  ·simp[Builtin.append_,run_underlying ht,run_underlying hk,Go.sizeOf,typeInfo,zeroValue,hi,hz,asInt,asIntOf,hw,S8,Ta,WR,h1,Addr.add_lit,fm]
 ·have hn:¬(fO+n.toNat<=jz):=by omega
  have h63:¬(9223372036854775807<((fO:Int)+(n.toNat:Int))):=by have:=Kv hb Ob;omega
  have abu:¬(9223372036854775807<((fO:Int)+max n 0)):=by omega
  have h48:¬(281474976710656<Builtin.nextslicecap (fO+n.toNat) jz*i.bytes):=by have:=growslice_fits hg hb;omega
  refine⟨grownCap w (fO+n.toNat) jz e,(olds++(Builtin.zeroCells z.cells n.toNat).toList).toArray++Builtin.zeroCells z.cells (grownCap w (fO+n.toNat) jz e-(fO+n.toNat)),?_,grownCap_ge _ _ _ _,?_,λk v hv=>?_⟩
  ·by_cases WR:n.toNat*i.size=0
   ·have CW:(Builtin.zeroCells z.cells n.toNat).toList=[]:=List.eq_nil_of_length_eq_zero (by rw[hlen,WR])
    rw[CW]
    simp[Builtin.append_,run_underlying ht,run_underlying hk,Go.sizeOf,typeInfo,zeroValue,hi,hz,asInt,asIntOf,hw,S8,Ta,hn,abu,h48,WR,Question.forced,hold,newRow,grownCap]
   ·simp[Builtin.append_,run_underlying ht,run_underlying hk,Go.sizeOf,typeInfo,zeroValue,hi,hz,asInt,asIntOf,hw,S8,Ta,hn,abu,h48,WR,Question.forced,hold,newRow,grownCap]
    congr 2
    apply Array.ext'
    simp[List.append_assoc]
  ·have h1:=grownCap_ge w (fO+n.toNat) jz e
   rw[Array.size_append,size_zeroCells,NY]
   simp only[List.size_toArray,List.length_append,Ny,hlen]
   rw[<-Nat.add_mul,<-Nat.add_mul]
   exact Nat.mul_le_mul_right _ (by omega)
  ·have hk:=(List.getElem?_eq_some_iff.1 hv).1
   rw[Array.getElem?_append,if_pos (by simpa using hk)]
   simpa using hv
theorem Oh {t tx ty e:TypeId}{sz bytes:Nat}{st:an}{bx:aX}(hI:Inv w G st)(hB:jq w G β bx){cO:Nat->Nat}(hX:∀b,cO b+fC b β bx+bY b G.ls st<=1)
  {s:AV} {vs vx:Value} (hs:aN w G s vs) {new:List (List AV)} {news:List Value} (dj:b8 w G new.flatten news) (mD:WQ P t tx ty e sz bytes vx new.length news w) (gY:∀r∈new,AV.aK r=true) (iY:∀r∈new,AV.dz r=true)
  {wl aa:Nat} {bP:an} {eR:aX} {r:dX} (ha:yc wl aa sz bytes s new st bx=some (r,bP,eR)) :
  ∃v w' G',(Builtin.append_ #[t,tx] ty #[vs,vx]).run P w=.ok v w'/\iG w G β st bx cO w' G' β bP eR r v:=by
 unfold yc at ha
 ·split at ha
  ·rename_i bn
   have CW:∀b xs,bR b new.flatten xs=0:=λb xs=>cW b _ _ ((cm _).2 λx hx=>by
    obtain⟨r,hr,hx⟩:=List.mem_flatten.1 hx
    exact(cm r).1 (iY r hr) x hx)
   have qx:new=[]->news=[]:=λh0=>by
    subst h0
    have:=dj.1;simp at this;exact List.eq_nil_of_length_eq_zero this.symm
   have fresh:∀base,(Builtin.firstCells sz 0 (.slice base 0 0)).run P w.drew=.ok ([]:List Value).toArray w.drew->new.length*bytes<=room->(new=[]->base.isSome=true)->
     ∃v w' G',(Builtin.append_ #[t,tx] ty #[.slice base 0 0,vx]).run P w=.ok v w'/\iG w G β st bx cO w' G' β (st++[.rows 0 sz new]) bx (.val (.mu st.length 0)) v:=by
    intro base hf hr Z3
    by_cases iQ:new=[]
    ·have:=qx iQ
     subst this;subst iQ
     have:=mD.nothing rfl base 0 0 (Nat.le_refl _)
     obtain⟨G',hA⟩:=Of (w:=w) (G:=G) (β:=β) (cO:=cO) (sz:=sz) (a:=base) hI hB (Z3 rfl)
     exact⟨_,_,_,this,hA⟩
    ·have hn:0<new.length:=List.length_pos_iff.2 iQ
     obtain⟨cap,c,e1,e2,e3,e4⟩:=mD.new base 0 0 [] hf (by simp) (by omega) (by simpa [room] using hr)
     simp only[Nat.zero_add,List.nil_append]at e1 e2 e4
     obtain⟨G',hA,_⟩:=tJ (w':=w.drew.alloc (.cells c e)) (cO:=cO) hI hB rfl rfl rfl bn gY dj (by omega) e3 e2 e4 (λb=>by rw[CW];omega)
     exact⟨_,_,G',e1,hA⟩
   split at ha
   ·split at ha
    ·rename_i yl
     cases ha
     have h0:new=[]:=by simpa using yl
     have:=qx h0
     subst this;subst h0
     cases hs
     have:=mD.nothing rfl none 0 0 (Nat.le_refl _)
     exact⟨_,_,_,this,iG.quiet hI hB (aN.U) λb=>by simp[cj,eP]⟩
    ·split at ha
     ·rename_i hr
      cases ha;cases hs
      exact fresh none (run_firstCells_none _ _ _ _ _) hr λh=>absurd h (by rename_i yl;simpa using yl)
     ·cases ha
   ·split at ha
    ·rename_i hr
     cases ha
     cases hs with
     |emp a=>exact fresh (some a) (by simp[Builtin.firstCells,loadCells,loadCellsFrom]) hr λ_=>rfl
    ·cases ha
   ·rename_i id bU
    split at ha
    ·rename_i v iP old fm
     split at ha
     ·rename_i hc
      simp only[Bool.and_eq_true,decide_eq_true_eq]at hc
      obtain⟨⟨⟨⟨rfl,rfl⟩,hr⟩,_⟩,_⟩:=hc
      cases ha
      obtain⟨loc,hl,yU,yV,gi⟩:=hI.loc fm
      cases hs with
      |mu _ _ _ loc' hp nR CH he=>
      rw[hl]at nR;cases nR
      have cx:=he (by omega)
      subst cx
      obtain⟨F1,S6,hfv,Et⟩:=gi.flat
      have CU:∀l':Loc,l'.bU=v+1->∀(i:Nat) l,G.ls[i]?=some l->∃Tb,(G.at id l').ls[i]?=some Tb/\l.bU<=Tb.bU/\(l.bU=Tb.bU\/l.mp=true->Tb.hd=l.hd):=λl' hv=>
       A2 hl (by omega) λh=>by rcases h with h|h<;>simp_all<;>omega
      have A4:∀l':Loc,(G.at id l').ls[id]?=some l':=λl'=>by
       simp only[aM.at];rw[List.getElem?_set,if_pos rfl,if_pos (List.getElem?_eq_some_iff.1 hl).1]
      by_cases iQ:new=[]
      ·have:=qx iQ
       subst this;subst iQ
       have hle:loc.len<=loc.cap:=by
        rcases gi.nS with⟨h0,h1,_⟩|⟨b,off,c,e',qJ,eS,eH,dZ,hlen,gx,dh⟩
        ·rw[gi.len,h1];simp
        ·rw[gi.len];exact hlen
       have:=mD.nothing rfl loc.a loc.len loc.cap hle
       have zH:qa w G w (G.at id { loc with bU:=v+1 }):=⟨λ_ _ h=>⟨rfl,h⟩,CU _ rfl⟩
       refine⟨_,_,G.at id { loc with bU:=v+1 },this,qh hI hB hX hl fm zH rfl ?_ hI.k9 (λb _ _=>⟨rfl,rfl⟩) (Nat.le_refl _) rfl rfl (.mu _ _ _ { loc with bU:=v+1 } ⟨_,_,_,rfl⟩ (A4 _) (Nat.le_refl _) λ_=>rfl) λb=>?_⟩
       ·have:=(nT.iB (w':=w) (G':=G.at id { loc with bU:=v+1 }) (show nT w G (.rows v iP old) loc from⟨yU,yV,gi⟩) zH λb _=>⟨rfl,rfl⟩)
        obtain⟨_,_,h3⟩:=this
        rw[List.append_nil]
        exact⟨yU,rfl,h3.fit,h3.z6,h3.len,h3.size,h3.qv,h3.qP,h3.nS⟩
       ·simp only[cj,eP,List.append_nil]
        show 0+gz b loc (.rows v iP old)<=cO b+gz b loc (.rows v iP old)+_
        omega
      ·have hn:0<new.length:=List.length_pos_iff.2 iQ
       have iU:=tL gi.fit bn
       have qg:(old++new).flatten=old.flatten++new.flatten:=List.flatten_append
       have Ny:loc.vals.flatten.length=old.length*iP:=by rw[<-F1.1];exact eI old (b9.1 gi.fit)
       have Nz:news.length=new.length*iP:=mD.newsLen
       by_cases mH:old.length+new.length<=loc.cap
       ·rcases gi.nS with⟨h0,h1,_⟩|⟨b,off,c,e',qJ,eS,eH,dZ,hlen,gx,dh⟩
        ·omega
        have hle:off+old.length*iP+news.length<=c.size:=by
         rw[Nz]
         have:(old.length+new.length)*iP<=loc.cap*iP:=Nat.mul_le_mul_right _ mH
         rw[Nat.add_mul]at this
         omega
        have e1:=mD.room b off old.length loc.cap c e' eH mH dZ
        rw[qJ,gi.len]
        have abv:=CU ⟨some ⟨b,off,none⟩,loc.cap,(old++new).length,iP,v+1,false,o6 iP (old++new).length (loc.vals.flatten++news)⟩ rfl
        have hW:Wr w G (w.setRow b (af c.toList (off+old.length*iP) news).toArray) ⟨(G.at id ⟨some ⟨b,off,none⟩,loc.cap,(old++new).length,iP,v+1,false,o6 iP (old++new).length (loc.vals.flatten++news)⟩).ls,λb'=>if b'=b then some 0 else G.kL b'⟩ b:=
         A3 eH hle gx (Nat.zero_le _) (Nat.le_refl _) abv
        have fj:loc.iZ=some b:=by unfold Loc.iZ;rw[if_neg (by omega),qJ];rfl
        refine⟨_,_,⟨(G.at id ⟨some ⟨b,off,none⟩,loc.cap,(old++new).length,iP,v+1,false,o6 iP (old++new).length (loc.vals.flatten++news)⟩).ls,λb'=>if b'=b then some 0 else G.kL b'⟩,e1,?_⟩
        refine qh hI hB hX hl fm hW.iB rfl ⟨rfl,rfl,lZ (b:=b) (off:=off) (c:=(af c.toList (off+old.length*iP) news).toArray) (e:=e') (xs:=loc.vals.flatten++news) iU (ni gi.z6 gY) ?_ rfl rfl rfl rfl eS (setRow_heap w b c _ e' (0,0) eH) (by rw[List.size_toArray,di];simpa using dZ) (by simpa using mH) (by simp) λk x hk=>?_⟩
         (hW.k9 hI) (λb' _ lO=>hW.iD λe=>lO (by rw[fj,e])) (by simp) rfl rfl (.mu _ _ _ _ ⟨_,_,_,rfl⟩ (A4 _) (Nat.le_refl _) λ_=>by simp) λb'=>?_
        ·rw[qg]
         refine(F1.mono hW.iB λb' lO=>hW.iD λe=>?_).append (dj.mono hW.iB λb' lO=>by rw[CW]at lO;omega)
         subst e
         rw[S6]at lO
         have h1:=hX b'
         have h2:=lX b' G.ls st id loc _ hl fm
         simp only[gz,fj,if_true]at h2
         omega
        ·rw[qf eH hle]
         by_cases qL:k<loc.vals.flatten.length
         ·rw[List.getElem?_append_left qL]at hk
          rw[if_neg (by omega)]
          exact Et b off dh k x hk
         ·rw[List.getElem?_append_right (by omega)]at hk
          have aV:=(List.getElem?_eq_some_iff.1 hk).1
          rw[if_pos (by omega),show off+k-(off+old.length*iP)=k-loc.vals.flatten.length by omega]
          exact hk
        ·have Gp:(⟨some ⟨b,off,none⟩,loc.cap,(old++new).length,iP,v+1,false,o6 iP (old++new).length (loc.vals.flatten++news)⟩:Loc).iZ=loc.iZ:=by
          rw[fj];unfold Loc.iZ;rw[if_neg (show ¬loc.cap=0 by omega)];rfl
         simp only[cj,eP,gz]
         rw[Gp,o8 b' (old++new) _ (b9.1 iU) (by rw[qg,List.length_append,List.length_append,F1.1,dj.1]),qg,eW b' _ _ _ _ F1.1,CW,S6]
         omega
       ·have hf:(Builtin.firstCells iP loc.len (.slice loc.a loc.len loc.cap)).run P w.drew=.ok loc.vals.flatten.toArray w.drew:=by
         rcases gi.nS with⟨h0,h1,_⟩|⟨b,off,c,e',qJ,eS,eH,dZ,hlen,gx,dh⟩
         ·have:loc.vals=[]:=by
           have:=gi.qv;rw[h1]at this;exact List.eq_nil_of_length_eq_zero (by simpa using this)
          rw[gi.len,h1,this]
          cases loc.a<;>simp[Builtin.firstCells,loadCells,loadCellsFrom]
         ·rw[qJ,gi.len]
          exact run_firstCells_some w.drew iP old.length ⟨b,off,none⟩ old.length loc.cap _ Ny (λj v hj=>by rw[j9,Dn];exact Et b off dh j v hj)
        obtain⟨L3,c,e1,e2,e3,e4⟩:=mD.new loc.a loc.len loc.cap loc.vals.flatten hf (by rw[Ny,gi.len]) (by rw[gi.len];omega) (by rw[gi.len];exact hr)
        rw[gi.len,<-List.length_append]at e2
        have hcp:0<L3:=by rw[List.length_append]at e2;omega
        have hw:(w.drew.alloc (.cells c e)).heap=w.heap.push (.cells c e):=rfl
        have hlN:(G.new w.heap.size (some 0) []).ls[id]?=some loc:=by simp only[aM.new,List.append_nil];exact hl
        have zH:qa w G (w.drew.alloc (.cells c e)) ((G.new w.heap.size (some 0) []).at id ⟨some ⟨w.heap.size,0,none⟩,L3,(old++new).length,iP,v+1,false,o6 iP (old++new).length (loc.vals.flatten++news)⟩):=
         (qc hw (some 0) []).trans (I2 hlN (by simp;omega) λh=>by rcases h with h|h<;>simp_all<;>omega)
        refine⟨_,_,_,e1,qh hI hB hX hl fm zH (loc':=⟨some ⟨w.heap.size,0,none⟩,L3,(old++new).length,iP,v+1,false,o6 iP (old++new).length (loc.vals.flatten++news)⟩) (by simp only[aM.at,aM.new,List.append_nil]) ⟨rfl,rfl,lZ (b:=w.heap.size) (off:=0) (c:=c) (e:=e) (xs:=loc.vals.flatten++news) iU (ni gi.z6 gY) ?_ rfl rfl rfl rfl hcp (o9 hw) (by simpa using e3) e2 (by simp[aM.at,aM.new]) λk x hk=>?_⟩
         (λb p hp=>?_) (λb hb _=>?_) (by rw[hw];simp) rfl rfl (.mu _ _ _ _ ⟨_,_,_,rfl⟩ (by simp only[aM.at];rw[List.getElem?_set,if_pos rfl,if_pos (List.getElem?_eq_some_iff.1 hlN).1]) (Nat.le_refl _) λ_=>by simp[gi.len]) λb'=>?_⟩
        ·rw[qg]
         exact(F1.mono zH λb' lO=>fW (G:=G) hw (some 0) [] (F1.held lO)).append (dj.mono zH λb' lO=>by rw[CW]at lO;omega)
        ·rw[Nat.zero_add];exact AX hw (e4 k x hk)
        ·simp only[aM.at,aM.new]at hp
         rw[hw,Array.size_push]
         split at hp
         ·omega
         ·have:=hI.k9 b p hp;omega
        ·exact fW (G:=G) hw (some 0) [] hb
        ·have Gp:(⟨some ⟨w.heap.size,0,none⟩,L3,(old++new).length,iP,v+1,false,o6 iP (old++new).length (loc.vals.flatten++news)⟩:Loc).iZ=some w.heap.size:=by
          unfold Loc.iZ;rw[if_neg (show ¬L3=0 by omega)];rfl
         simp only[cj,eP,gz]
         rw[Gp,o8 b' (old++new) _ (b9.1 iU) (by rw[qg,List.length_append,List.length_append,F1.1,dj.1]),qg,eW b' _ _ _ _ F1.1,CW,S6]
         simp only[Option.some.injEq]
         by_cases hb:w.heap.size=b'
         ·subst hb;rw[if_pos (Nat.le_refl _)];simp;omega
         ·rw[if_neg hb];omega
     ·cases ha
    ·cases ha
   ·cases ha
  ·cases ha
theorem L4 {t tx ty e:TypeId}{sz bytes:Nat}{i:TypeInfo}{z:Value}(h:I4 P t tx e sz bytes i z){st:an}{bx:aX}(hI:Inv w G st)(hB:jq w G β bx){cO:Nat->Nat}(hX:∀b,cO b+fC b β bx+bY b G.ls st<=1)
  {s x:AV} {vs vx:Value} (hs:aN w G s vs) (hx:aN w G x vx) {wl aa:Nat} {bP:an} {eR:aX} {r:dX} (ha:aL wl aa (.lT sz bytes) [.val s,.val x] st bx=some (r,bP,eR)) :
  ∃v w' G',(Builtin.append_ #[t,tx] ty #[vs,vx]).run P w=.ok v w'/\iG w G β st bx cO w' G' β bP eR r v:=by
 simp only[aL]at ha
 split at ha
 ·cases ha
 ·rename_i new ov
  by_cases bn:fits sz new=true
  ·obtain⟨news,dj,mD,gY,iY,_⟩:=uK hI hx ov bn h.kind
   exact Oh hI hB hX hs dj (Og h mD) gY iY ha
  ·unfold yc at ha
   rw[if_neg bn]at ha
   cases ha
theorem L5 {t tx ty e:TypeId}{sz bytes:Nat}(ht:P.underlying t=some (.slice e))(hk:∃k,P.underlying tx=some (.int k))(dZ:ck P e sz=true)(S4:nh P e bytes=true){zero:List AV}(hz:mK P e zero=true)(pos:0<sz)(Ob:0<bytes)
  {st:an} {bx:aX} (hI:Inv w G st) (hB:jq w G β bx) {cO:Nat->Nat} (hX:∀b,cO b+fC b β bx+bY b G.ls st<=1)
  {s x:AV} {vs vx:Value} (hs:aN w G s vs) (hx:aN w G x vx) {wl aa:Nat} {bP:an} {eR:aX} {r:dX} (ha:aL wl aa (.uC sz bytes zero) [.val s,.val x] st bx=some (r,bP,eR)) :
  ∃v w' G',(Builtin.append_ #[t,tx] ty #[vs,vx]).run P w=.ok v w'/\iG w G β st bx cO w' G' β bP eR r v:=by
 simp only[aL]at ha
 split at ha
 ·rename_i n heq
  simp only[List.cons.injEq,dX.val.injEq,and_true]at heq
  obtain⟨rfl,rfl⟩:=heq
  split at ha
  ·rename_i hc
   obtain⟨h0,hr,Kt,nA⟩:=hc
   obtain⟨i,z,hi,NZ,mC,Ge,Nx⟩:=kB hz w G
   obtain⟨i',oM,CL,_⟩:=j7 dZ
   rw[hi]at oM;cases oM
   have hb:i.bytes=bytes:=by simpa [nh,hi] using S4
   have NY:z.cells.size=sz:=by rw[<-Kt,mC.1];simp
   have hrz:=yg (n:=n.toNat) mC Kt pos
   rw[<-Es z.cells n.toNat sz NY]at hrz
   have hR:=I5 (ty:=ty) ht hk hi NZ CL hb NY pos Ob h0 (by simpa [room] using hr) w (hrz.SQ (b8.CV λr hr=>by rw[List.eq_of_mem_replicate hr];exact Nx))
   cases hx
   rw[show n.toNat=(List.replicate n.toNat zero).length by simp]at hR
   exact Oh hI hB hX hs hrz (by simpa using hR) (λr hr=>by rw[List.eq_of_mem_replicate hr];exact Nx) (λr hr=>by rw[List.eq_of_mem_replicate hr];exact(cm zero).2 λc hc=>(Ge c hc).1) ha
  ·cases ha
 ·cases ha
end Ax
namespace Ax
open Go
variable {P:Program}{w w':World}{G G':aM}{β fQ:List k8}{ρ:Operand->Value}{o:Oper}
theorem wY {st:an}(hI:Inv w G st){id bU i k sz:Nat}{v:Value}{rows:List (List AV)}{r:List AV}(hp:aN w G (.ptr id bU i k) v)(fm:st[id]?=some (.rows bU sz rows))(hr:rows[i]?=some r) :
  ∃loc b off c e xs,G.ls[id]?=some loc/\loc.mp=false/\loc.bU=bU/\tE w G sz rows loc/\v=.pointer (some ⟨b,off+(i*sz+k),none⟩)/\loc.a=some ⟨b,off,none⟩/\0<loc.cap/\loc.iZ=some b/\
   w.heap[b]?=some (.cells c e (0,0))/\off+loc.cap*sz<=c.size/\rows.length<=loc.cap/\G.kL b=some 0/\loc.vals[i]?=some xs/\b8 w G r xs/\
   ∀(i:Nat) xs (j:Nat) x,loc.vals[i]?=some xs->xs[j]?=some x->w.cell? ⟨b,off+(i*sz+j),none⟩=some x:=by
 obtain⟨loc,hl,yU,yV,gi⟩:=hI.loc fm
 cases hp with
 |ptr _ _ _ _ _ loc' hpp nR hv he=>
 rw[hl]at nR;cases nR
 obtain⟨a,qJ,rfl⟩:=he yV.symm
 rcases gi.nS with⟨_,qx,_⟩|⟨b,off,c,e',IX,eS,eH,hle,hlen,gx,dh⟩
 ·subst qx;simp at hr
 ·rw[IX]at qJ;cases qJ
  have hi:i<loc.vals.length:=by rw[gi.qv];exact(List.getElem?_eq_some_iff.1 hr).1
  have hv:=List.getElem?_eq_getElem hi
  exact⟨loc,b,off,c,e',loc.vals[i],hl,yU,yV,gi,by rw[gi.size],IX,eS,by unfold Loc.iZ;rw[if_neg (by omega),IX];rfl,eH,hle,hlen,gx,hv,gi.qP i r _ hr hv,dh⟩
theorem je {as vs:List AV}(h:AV.aK as=true)(k:AV.aK vs=true){n:Nat}(hn:n+vs.length<=as.length):AV.aK (af as n vs)=true:=by
 rw[jd _ _ _ hn]
 simp only[AV.aK,List.all_eq_true,List.mem_append]at *
 intro x hx
 rcases hx with (hx|hx)|hx
 ·exact h x (List.mem_of_mem_take hx)
 ·exact k x hx
 ·exact h x (List.mem_of_mem_drop hx)
theorem Tc {t:TypeId}{x y:Operand}{n:Nat}(ho:o.op=.store t x y)(hn:ck P t n=true){st:an}{bx:aX}(hI:Inv w G st)(hB:jq w G β bx){cO:Nat->Nat}(hX:∀b,cO b+fC b β bx+bY b G.ls st<=1)
  {p v:AV} (hp:aN w G p (ρ x)) (hv:aN w G v (ρ y)) (mI:∀b,eP b v (ρ y)<=cO b) {wl aa:Nat} {bP:an} {eR:aX} {r:dX} (ha:aL wl aa (.store n) [.val p,.val v] st bx=some (r,bP,eR)) :
  ∃w' G',(execOp ρ o).run P w=.ok .skip w'/\iG w G β st bx cO w' G' β bP eR r undef:=by
 simp only[aL]at ha
 split at ha
 ·rename_i ju
  simp only[Bool.and_eq_true,decide_eq_true_eq]at ju
  obtain⟨Td,CX⟩:=ju
  split at ha
  ·rename_i lz hw
   cases ha
   unfold dL at hw
   split at hw
   ·rename_i id bU i k
    split at hw
    ·rename_i ve sz rows fm
     split at hw
     ·rename_i En
      simp only[Bool.and_eq_true,decide_eq_true_eq]at En
      obtain⟨rfl,_⟩:=En
      split at hw
      ·rename_i row cR
       split at hw
       ·rename_i bn
        cases hw
        obtain⟨loc,b,off,c,e,xs,hl,yU,yV,gi,Gq,qJ,eS,fj,eH,hle,hlen,gx,I6,kN,dh⟩:=wY hI hp fm cR
        obtain⟨wo,CJ⟩:=hv.cells
        have rJ:row.length=sz:=b9.1 gi.fit row (cG cR)
        have hxl:xs.length=sz:=by rw[<-kN.1];exact rJ
        have hi:i<rows.length:=(List.getElem?_eq_some_iff.1 cR).1
        have Sn:(ρ y).cells.toList.length=v.cells.length:=wo.1.symm
        have Oa:=wo.SQ CX
        have I7:off+(i*sz+k)+(ρ y).cells.toList.length<=c.size:=by
         have h1:(i+1)*sz<=loc.cap*sz:=Nat.mul_le_mul_right _ (by omega)
         rw[Nat.succ_mul]at h1
         omega
        have zJ:=fZ (P:=P) b (off+(i*sz+k)) e (ρ y).cells.toList c w eH I7 Oa
        have CU:=A2 (loc':={ loc with vals:=loc.vals.set i (af xs k (ρ y).cells.toList) }) hl (Nat.le_refl _) λ_=>rfl
        have hW:Wr w G (w.setRow b (af c.toList (off+(i*sz+k)) (ρ y).cells.toList).toArray) ⟨(G.at id { loc with vals:=loc.vals.set i (af xs k (ρ y).cells.toList) }).ls,λb'=>if b'=b then some 0 else G.kL b'⟩ b:=
         A3 eH I7 gx (Nat.zero_le _) (Nat.le_refl _) CU
        have kP:cO b=0/\eX b rows loc.vals=0:=by
         have h1:=hX b
         have h2:=lX b G.ls st id loc _ hl fm
         simp only[gz,fj,if_true]at h2
         omega
        refine⟨_,⟨(G.at id { loc with vals:=loc.vals.set i (af xs k (ρ y).cells.toList) }).ls,λb'=>if b'=b then some 0 else G.kL b'⟩,?_,qh hI hB hX hl fm hW.iB rfl ⟨yU,yV,?_⟩ (hW.k9 hI) (λb' _ lO=>hW.iD λe=>lO (by rw[fj,e])) (by simp) rfl rfl trivial λb'=>?_⟩
        ·have dZ:(ρ y).cells.size=n:=by rw[<-Td,wo.1];simp
         simp only[execOp,ho,Gq,Sem.run_bind,Instr.storeAt,Instr.sureAddr,Sem.run_pure,Result.andThen_ok,storeVar,dG hn,dZ,ne_eq,not_true_eq_false,if_false,zJ]
        ·have abw:b8 (w.setRow b (af c.toList (off+(i*sz+k)) (ρ y).cells.toList).toArray) ⟨(G.at id { loc with vals:=loc.vals.set i (af xs k (ρ y).cells.toList) }).ls,λb'=>if b'=b then some 0 else G.kL b'⟩ v.cells (ρ y).cells.toList:=
          wo.mono hW.iB λb' lO=>hW.iD λe=>by
           subst e
           rw[CJ]at lO
           have:=mI b'
           omega
         have hold:∀(i':Nat) r' IL,rows[i']?=some r'->loc.vals[i']?=some IL->b8 (w.setRow b (af c.toList (off+(i*sz+k)) (ρ y).cells.toList).toArray) ⟨(G.at id { loc with vals:=loc.vals.set i (af xs k (ρ y).cells.toList) }).ls,λb'=>if b'=b then some 0 else G.kL b'⟩ r' IL:=λi' r' IL h1 h2=>
          (gi.qP i' r' IL h1 h2).mono hW.iB λb' lO=>hW.iD λe=>by
           subst e
           have:=uJ b' rows loc.vals i' r' IL h1 h2
           omega
         refine⟨b9.2 λr' vu=>?_,λr' vu=>?_,by simp[gi.len],gi.size,by simp[gi.qv],λi' r' IL h1 h2=>?_,.inr ⟨b,off,_,e,qJ,eS,setRow_heap w b c _ e (0,0) eH,by rw[List.size_toArray,di];simpa using hle,by simpa using hlen,by simp,λi' IL j z h1 h2=>?_⟩⟩
         ·rcases List.mem_or_eq_of_mem_set vu with h|h
          ·exact b9.1 gi.fit r' h
          ·rw[h,di];exact rJ
         ·rcases List.mem_or_eq_of_mem_set vu with h|h
          ·exact gi.z6 r' h
          ·rw[h];exact je (gi.z6 row (cG cR)) CX bn
         ·simp only at h2
          rw[List.getElem?_set]at h1 h2
          by_cases I8:i=i'
          ·subst I8
           rw[if_pos rfl,if_pos hi]at h1
           rw[if_pos rfl,if_pos (List.getElem?_eq_some_iff.1 I6).1]at h2
           cases h1;cases h2
           exact(hold i row xs cR I6).af abw bn
          ·rw[if_neg I8]at h1 h2
           exact hold i' r' IL h1 h2
         ·simp only at h1
          rw[qf eH I7]
          rw[List.getElem?_set]at h1
          by_cases I8:i=i'
          ·subst I8
           rw[if_pos rfl]at h1
           split at h1
           ·cases h1
            rw[iC _ _ _ _ (by rw[Sn,hxl,<-rJ];exact bn)]at h2
            split at h2
            ·rename_i hj
             rw[if_pos (by omega),show off+(i*sz+j)-(off+(i*sz+k))=j-k by omega]
             exact h2
            ·rename_i hj
             rw[if_neg (by omega)]
             exact dh i xs j z I6 h2
           ·cases h1
          ·rw[if_neg I8]at h1
           have hj:j<sz:=by
            have h3:=(List.getElem?_eq_some_iff.1 h2).1
            have h4:=gi.flat.2.2.1 IL (cG h1)
            omega
           have:¬(off+(i*sz+k)<=off+(i'*sz+j)/\off+(i'*sz+j)<off+(i*sz+k)+(ρ y).cells.toList.length):=by
            rcases Nat.lt_or_gt_of_ne I8 with aV|aV
            ·have h5:(i+1)*sz<=i'*sz:=Nat.mul_le_mul_right _ aV
             rw[Nat.succ_mul]at h5
             omega
            ·have h5:(i'+1)*sz<=i*sz:=Nat.mul_le_mul_right _ aV
             rw[Nat.succ_mul]at h5
             omega
           rw[if_neg this]
           exact dh i' IL j z h1 h2
        ·have h1:=qQ b' rows loc.vals i row xs (af row k v.cells) (af xs k (ρ y).cells.toList) cR I6
         have h2:=o0 b' row v.cells xs (ρ y).cells.toList k kN.1 wo.1 bn
         have h3:=mI b'
         rw[CJ]at h2
         have hb:(if ({ loc with vals:=loc.vals.set i (af xs k (ρ y).cells.toList) }:Loc).iZ=some b' then 1 else 0)=(if loc.iZ=some b' then 1 else 0):=rfl
         simp only[cj,gz]
         rw[hb]
         omega
       ·cases hw
      ·cases hw
     ·cases hw
    ·cases hw
   ·cases hw
  ·cases ha
 ·cases ha
theorem aN.ir {a:AV}{v:Value}(h:aN w G a v):aN w G a.ir v:=by
 cases h with
 |own sz rows a cap ot eS bn iY nA uD hc hr gx fj=>exact .gone _ rfl
 |raw sz rows a cap ot eS bn iY nA uD hc hr gx fj=>exact .gone _ rfl
 |agg cs vs hl h=>exact .agg cs vs hl h
 |fz cs vs hl h=>exact .fz cs vs hl h
 |undef=>exact .undef
 |gone v h=>exact .gone v h
 |bool b=>exact .bool b
 |int k n=>exact .int k n
 |str l s h=>exact .str l s h
 |eC=>exact .eC
 |U=>exact .U
 |fh=>exact .fh
 |gV=>exact .gV
 |jt=>exact .jt
 |cU sz rows a cap ot eS bn iY nA uD hc hr=>exact .cU sz rows a cap ot eS bn iY nA uD hc hr
 |emp a=>exact .emp a
 |mu id bU v loc hp hl hv he=>exact .mu id bU v loc hp hl hv he
 |ptr id bU i k v loc hp hl hv he=>exact .ptr id bU i k v loc hp hl hv he
 |n8 sz rows i k a cap hl=>exact .n8 sz rows i k a cap hl
 |map id loc b hl hm hb=>exact .map id loc b hl hm hb
 |fn f first j3 vf vc hl hm hn h k=>exact .fn f first j3 vf vc hl hm hn h k
theorem Oi (b:Nat)(a:AV)(v:Value)(h:a.cw=true):eP b a.ir v=0:=by
 refine eu b _ _ ?_
 cases a<;>simp_all [AV.ir,AV.bX,AV.cw]
theorem Gr (a:AV)(h:a.cw=true):a.ir.cw=true:=by
 cases a<;>simp_all [AV.ir,AV.cw]
theorem b8.ir {as:List AV}{xs:List Value}(h:b8 w G as xs):b8 w G (as.map AV.ir) xs:=by
 refine⟨by simp[h.1],λi c v h1 h2=>?_⟩
 simp only[List.getElem?_map,Option.map_eq_some_iff]at h1
 obtain⟨c',h1,rfl⟩:=h1
 exact(h.2 i c' v h1 h2).ir
theorem Dp (b:Nat):∀(as:List AV)(xs:List Value),AV.aK as=true->bR b (as.map AV.ir) xs=0
 |[],xs,_=>by simp[bR]
 |a::as,[],_=>by simp[bR]
 |a::as,x::xs,h=>by
  simp only[AV.aK,List.all_cons,Bool.and_eq_true]at h
  have:=Dp b as xs h.2
  simp only[List.map_cons,bR,Oi b a x h.1,this]
theorem CY {as:List AV}(h:AV.aK as=true):AV.aK (as.map AV.ir)=true:=by
 simp only[AV.aK,List.all_eq_true,List.mem_map]at *
 rintro x ⟨y,hy,rfl⟩
 exact Gr y (h y hy)
theorem Eu {as:List AV}(h:AV.aK as=true)(k n:Nat):AV.aK ((as.drop k).take n)=true:=by
 simp only[AV.aK,List.all_eq_true]at *
 intro x hx
 exact h x (List.mem_of_mem_drop (List.mem_of_mem_take hx))
theorem rL {α:Type}(xs:List α)(k n:Nat)(h:k+n<=xs.length):af xs k ((xs.drop k).take n)=xs:=by
 rw[jd _ _ _ (by simp;omega)]
 have:((xs.drop k).take n).length=n:=by simp;omega
 rw[this,List.append_assoc,<-List.drop_drop,List.take_append_drop,List.take_append_drop]
theorem Gs {r cs:List AV}{xs:List Value}{k n:Nat}(hr:b8 w G r xs)(hc:cut r k n=some cs)(gY:AV.aK r=true) :
  b8 w G (af r k (cs.map AV.ir)) xs/\AV.aK (af r k (cs.map AV.ir))=true/\∀b,bR b (af r k (cs.map AV.ir)) xs+bR b cs ((xs.drop k).take n)=bR b r xs:=by
 obtain⟨rfl,hle,hlen⟩:=o5 hc
 have NX:=Eu gY k n
 have Oj:k+n<=xs.length:=by rw[<-hr.1];exact hle
 have jU:=rL xs k n Oj
 refine⟨?_,je gY (CY NX) (by rw[List.length_map];omega),λb=>?_⟩
 ·have:=hr.af ((hr.drop k).take n).ir (n:=k) (by rw[List.length_map];omega)
  rw[jU]at this
  exact this
 ·have h1:=j8 b k r xs hr.1
  have h2:=j8 b n (r.drop k) (xs.drop k) (by simp[hr.1])
  have h3:=Dp b ((r.drop k).take n) ((xs.drop k).take n) NX
  have e:bR b (af r k (((r.drop k).take n).map AV.ir)) xs=bR b (af r k (((r.drop k).take n).map AV.ir)) (af xs k ((xs.drop k).take n)):=by rw[jU]
  rw[e,jd _ _ _ (by rw[List.length_map];omega),jd _ _ _ (by simp;omega),eW b _ _ _ _ (by have:=hr.1;simp;omega),eW b _ _ _ _ (by have:=hr.1;simp;omega),h3]
  have l1:(((r.drop k).take n).map AV.ir).length=n:=by rw[List.length_map];omega
  have l2:((xs.drop k).take n).length=n:=by simp;omega
  rw[l1,l2]
  rw[List.drop_drop,List.drop_drop]at h2
  omega
theorem ga {α:Type}(l:List α)(i:Nat)(x:α)(h:l[i]?=some x):l.set i x=l:=by
 apply List.ext_getElem?
 intro j
 rw[List.getElem?_set]
 split
 ·rename_i e;subst e
  split
  ·exact h.symm
  ·rename_i hn;exact absurd (List.getElem?_eq_some_iff.1 h).1 hn
 ·rfl
theorem I9 {t:TypeId}{x:Operand}{n:Nat}{agg:Bool}(ho:o.op=.load t x)(hn:ck P t n=true)(qw:lV P t=some agg)(kP:agg=false->n=1){st:an}{bx:aX}(hI:Inv w G st)(hB:jq w G β bx){cO:Nat->Nat}(hX:∀b,cO b+fC b β bx+bY b G.ls st<=1)
  {p:AV} (hp:aN w G p (ρ x)) {wl aa:Nat} {bP:an} {eR:aX} {r:dX} (ha:aL wl aa (.load agg n true) [.val p] st bx=some (r,bP,eR)) :
  ∃v,(execOp ρ o).run P w=.ok (.value v) w/\iG w G β st bx cO w G β bP eR r v:=by
 simp only[aL,if_true]at ha
 split at ha
 ·rename_i cs A5
  split at ha
  ·rename_i lz v hw hv
   cases ha
   unfold dL at hw
   split at hw
   ·rename_i id bU i k
    split at hw
    ·rename_i ve sz rows fm
     split at hw
     ·rename_i En
      simp only[Bool.and_eq_true,decide_eq_true_eq]at En
      obtain⟨rfl,_⟩:=En
      split at hw
      ·rename_i row cR
       split at hw
       ·rename_i bn
        cases hw
        simp only[fN,fm,cR,if_true]at A5
        obtain⟨loc,b,off,c,e,xs,hl,yU,yV,gi,Gq,qJ,eS,fj,eH,hle,hlen,gx,I6,kN,dh⟩:=wY hI hp fm cR
        obtain⟨t1,t2,t3⟩:=Gs kN A5 (gi.z6 row (cG cR))
        obtain⟨mI,Ja,F2⟩:=o5 A5
        have hxl:xs.length=row.length:=kN.1.symm
        have Kw:((xs.drop k).take n).length=n:=by simp;omega
        have dj:b8 w G cs ((xs.drop k).take n):=by rw[mI];exact(kN.drop k).take n
        obtain⟨u,h1,h2,h3⟩:=Eo ho hn qw kP Gq Kw dj (λj z hz=>by
         rw[List.getElem?_take]at hz
         split at hz
         ·rw[List.getElem?_drop]at hz
          rw[show off+(i*sz+k)+j=off+(i*sz+(k+j)) by omega]
          exact dh i xs (k+j) z I6 hz
         ·cases hz) hv
        refine⟨u,h1,qh hI hB hX hl fm (qa.refl w G) (ga _ _ _ hl).symm ⟨yU,yV,?_⟩ hI.k9 (λb _ _=>⟨rfl,rfl⟩) (Nat.le_refl _) rfl rfl h2 λb'=>?_⟩
        ·refine⟨b9.2 λr' vu=>?_,λr' vu=>?_,by simp[gi.len],gi.size,by simp[gi.qv],λi' r' IL h1 h2=>?_,.inr ⟨b,off,c,e,qJ,eS,eH,hle,by simpa using hlen,gx,dh⟩⟩
         ·rcases List.mem_or_eq_of_mem_set vu with h|h
          ·exact b9.1 gi.fit r' h
          ·rw[h,di];exact b9.1 gi.fit row (cG cR)
         ·rcases List.mem_or_eq_of_mem_set vu with h|h
          ·exact gi.z6 r' h
          ·rw[h];exact t2
         ·rw[List.getElem?_set]at h1
          by_cases I8:i=i'
          ·subst I8
           rw[if_pos rfl]at h1
           split at h1
           ·cases h1
            rw[I6]at h2;cases h2
            exact t1
           ·cases h1
          ·rw[if_neg I8]at h1
           exact gi.qP i' r' IL h1 h2
        ·have h4:=qQ b' rows loc.vals i row xs (af row k (cs.map AV.ir)) xs cR I6
         rw[ga _ _ _ I6]at h4
         have h5:=t3 b'
         have h6:=h3 b'
         simp only[cj,gz]
         omega
       ·cases hw
      ·cases hw
     ·cases hw
    ·cases hw
   ·cases hw
  ·cases ha
 ·cases ha
end Ax
namespace Ax
open Go
variable {P:Program}{w w':World}{G G':aM}{β fQ:List k8}{ρ:Operand->Value}{o:Oper}
def ey (nb:Option Nat)(β fQ:List k8):Prop:=∀(j:Nat) g,β[j]?=some g->∃g',fQ[j]?=some g'/\(nb≠some j->g'.iZ=g.iZ)
theorem ey.refl (nb:Option Nat)(β:List k8):ey nb β β:=λ_ g h=>⟨g,h,λ_=>rfl⟩
theorem ey.set {nb:Option Nat}{j:Nat}{g g':k8}(hg:β[j]?=some g)(h:nb≠some j->g'.iZ=g.iZ):ey nb β (β.set j g'):=by
 intro i x hx
 by_cases hi:j=i
 ·subst hi
  rw[hg]at hx;cases hx
  exact⟨g',by rw[List.getElem?_set,if_pos rfl,if_pos (List.getElem?_eq_some_iff.1 hg).1],h⟩
 ·exact⟨x,by rw[List.getElem?_set,if_neg hi];exact hx,λ_=>rfl⟩
theorem A6 {st:an}{bx:aX}{cO:Nat->Nat}(hI:Inv w G st)(hB:jq w G β bx)(hX:∀b,cO b+fC b β bx+bY b G.ls st<=1){j:Nat}{g g':k8}{row row':List AV}{e:dX}{v:Value}
  (hg:β[j]?=some g) (hr:bx[j]?=some row) (fj:g'.iZ=g.iZ) (hs:qa w G w' G') (I3:G'.ls=G.ls) (ov:wV w' G' row' g') (ht:∀b p,G'.kL b=some p->b<w'.heap.size)
  (Gn:∀b,b<w.heap.size->g.iZ≠some b->dH w G w' G' b) (Oe:w.heap.size<=w'.heap.size) (IK:w'.os=w.os) (vr:w'.output=w.output) (dj:jF w' G' (β.set j g') e v)
  (hc:∀b,cj b e v+bR b row' g'.vals<=cO b+bR b row g.vals):iG w G β st bx cO w' G' (β.set j g') st (bx.set j row') e v:=by
 have key:∀b,g.iZ=some b->1<=(if g.iZ=some b then 1 else 0)+bR b row g.vals:=λb h=>by rw[if_pos h];omega
 refine⟨hs,tK hI hs I3 (λb hb=>Gn b (hI.held hb) λh=>?_) ht,⟨by simp[hB.len],λi r x h1 h2=>?_⟩,dj,λb=>?_,λb hb aV=>Gn b aV λh=>?_,Oe,IK,vr⟩
 ·have h1:=key b h
  have h2:=lY b β bx j g row hg hr
  have:=hX b
  omega
 ·rw[List.getElem?_set]at h1 h2
  by_cases zG:j=i
  ·subst zG
   rw[if_pos rfl,if_pos (List.getElem?_eq_some_iff.1 hr).1]at h1
   rw[if_pos rfl,if_pos (List.getElem?_eq_some_iff.1 hg).1]at h2
   cases h1;cases h2;exact ov
  ·rw[if_neg zG]at h1 h2
   refine(hB.box i r x h1 h2).iB hs λb hb=>Gn b (hB.held (b:=b) (by have:=lY b β bx i x r h2 h1;omega)) λh=>?_
   have h3:=key b h
   have h4:=Gj b β bx i j x r g row (λe=>zG e.symm) h2 h1 hg hr
   have:=hX b
   omega
 ·have h1:=wU b β bx j g row g' row' hg hr
  have h2:=hc b
  rw[I3]
  rw[fj]at h1
  omega
 ·have h1:=key b h
  have h2:=lY b β bx j g row hg hr
  omega
theorem Ev {bx:aX}(hB:jq w G β bx){j k:Nat}{v:Value}{row:List AV}(hp:jF w G β (.fp j k) v)(hr:bx[j]?=some row) :
  ∃g b c e,β[j]?=some g/\g.iZ=some b/\v=.pointer (some ⟨b,k,none⟩)/\wV w G row g/\w.heap[b]?=some (.cells c e (0,0))/\row.length<=c.size/\G.kL b=some 0/\∀(k:Nat) x,g.vals[k]?=some x->w.cell? ⟨b,k,none⟩=some x:=by
 obtain⟨g,b,h1,h2,h3⟩:=hp
 have hb:=hB.box j row g hr h1
 rcases hb.nS with⟨h0,_⟩|⟨b',c,e,h4,h5,h6,h7,h8⟩
 ·rw[h0]at h2;cases h2
 ·rw[h2]at h4;cases h4
  exact⟨g,b,c,e,h1,h2,h3,hb,h5,h6,h7,h8⟩
theorem Ok {t:TypeId}{x y:Operand}{j0 n:Nat}(ho:o.op=.store t x y)(hn:ck P t n=true){st:an}{bx:aX}(hI:Inv w G st)(hB:jq w G β bx){cO:Nat->Nat}(hX:∀b,cO b+fC b β bx+bY b G.ls st<=1)
  {p v:dX} (hp:jF w G β p (ρ x)) (hv:jF w G β v (ρ y)) (mI:∀b,cj b v (ρ y)<=cO b) {wl aa:Nat} {bP:an} {eR:aX} {r:dX} (ha:aL wl aa (.ag j0 n) [p,v] st bx=some (r,bP,eR)) :
  ∃w' G' fQ,(execOp ρ o).run P w=.ok .skip w'/\iG w G β st bx cO w' G' fQ bP eR r undef/\ey none β fQ:=by
 unfold aL at ha
 simp only at ha
 split at ha
 ·rename_i j k v heq
  cases heq
  split at ha
  ·rename_i ju
   simp only[Bool.and_eq_true,decide_eq_true_eq]at ju
   obtain⟨⟨rfl,Td⟩,CX⟩:=ju
   split at ha
   ·rename_i row hr
    split at ha
    ·rename_i bn
     cases ha
     obtain⟨g,b,c,e,hg,fj,Gq,s7,eH,hle,gx,dh⟩:=Ev hB hp hr
     obtain⟨wo,CJ⟩:=aN.cells hv
     have Sn:(ρ y).cells.toList.length=n:=by rw[<-Td];exact wo.1.symm
     have I7:k+(ρ y).cells.toList.length<=c.size:=by omega
     have zJ:=fZ (P:=P) b k e (ρ y).cells.toList c w eH I7 (wo.SQ CX)
     have hW:Wr w G (w.setRow b (af c.toList k (ρ y).cells.toList).toArray) ⟨G.ls,λb'=>if b'=b then some 0 else G.kL b'⟩ b:=A3 eH I7 gx (Nat.zero_le _) (Nat.le_refl _) (AZ G)
     have kP:cO b=0/\bR b row g.vals=0:=by
      have h1:=hX b
      have h2:=lY b β bx j0 g row hg hr
      rw[if_pos fj]at h2
      omega
     refine⟨_,⟨G.ls,λb'=>if b'=b then some 0 else G.kL b'⟩,β.set j0 ⟨g.iZ,af g.vals k (ρ y).cells.toList⟩,?_,A6 hI hB hX hg hr rfl hW.iB rfl ⟨?_,je s7.z6 CX (by rw[Td];exact bn),.inr ⟨b,_,e,fj,setRow_heap w b c _ e (0,0) eH,?_,by simp,λi z hz=>?_⟩⟩ (hW.k9 hI) (λb' _ lO=>hW.iD λe=>lO (by rw[fj,e])) (by simp) rfl rfl trivial λb'=>?_,ey.set hg λ_=>rfl⟩
     ·have dZ:(ρ y).cells.size=n:=by simpa using Sn
      simp only[execOp,ho,Gq,Sem.run_bind,Instr.storeAt,Instr.sureAddr,Sem.run_pure,Result.andThen_ok,storeVar,dG hn,dZ,ne_eq,not_true_eq_false,if_false,zJ]
     ·refine(s7.rep.mono hW.iB λb' lO=>hW.iD λe=>?_).af (wo.mono hW.iB λb' lO=>hW.iD λe=>?_) (by rw[Td];exact bn)
      ·subst e;omega
      ·subst e
       rw[CJ]at lO
       have:=mI b'
       simp only[cj]at this
       omega
     ·rw[di,List.size_toArray,di];simpa using hle
     ·rw[qf eH I7]
      simp only at hz
      rw[iC _ _ _ _ (by rw[Sn];rw[<-s7.rep.1];exact bn)]at hz
      split at hz
      ·rename_i hi;rw[if_pos hi];exact hz
      ·rename_i hi;rw[if_neg hi];exact dh i z hz
     ·have h2:=o0 b' row v.cells g.vals (ρ y).cells.toList k s7.rep.1 wo.1 (by rw[Td];exact bn)
      have h3:=mI b'
      rw[CJ]at h2
      simp only[cj]at h3 ⊢
      omega
    ·cases ha
   ·cases ha
  ·cases ha
 ·cases ha
theorem Te {t:TypeId}{x:Operand}{j0 n:Nat}{agg take:Bool}(ho:o.op=.load t x)(hn:ck P t n=true)(qw:lV P t=some agg)(kP:agg=false->n=1){st:an}{bx:aX}(hI:Inv w G st)(hB:jq w G β bx){cO:Nat->Nat}(hX:∀b,cO b+fC b β bx+bY b G.ls st<=1)
  {p:dX} (hp:jF w G β p (ρ x)) {wl aa:Nat} {bP:an} {eR:aX} {r:dX} (ha:aL wl aa (.aj j0 agg n take) [p] st bx=some (r,bP,eR)) :
  ∃v,(execOp ρ o).run P w=.ok (.value v) w/\iG w G β st bx cO w G β bP eR r v:=by
 unfold aL at ha
 simp only at ha
 split at ha
 ·rename_i j k heq
  cases heq
  split at ha
  ·rename_i hj
   subst hj
   split at ha
   ·rename_i row hr
    split at ha
    ·rename_i cs Ol
     obtain⟨g,b,c,e,hg,fj,Gq,s7,eH,hle,gx,dh⟩:=Ev hB hp hr
     obtain⟨mI,Ja,F2⟩:=o5 Ol
     have hxl:g.vals.length=row.length:=s7.rep.1.symm
     have Kw:((g.vals.drop k).take n).length=n:=by simp;omega
     have dj:b8 w G cs ((g.vals.drop k).take n):=by rw[mI];exact(s7.rep.drop k).take n
     have mG:∀(j:Nat) y,((g.vals.drop k).take n)[j]?=some y->w.cell? ⟨b,k+j,none⟩=some y:=λj z hz=>by
      rw[List.getElem?_take]at hz
      split at hz
      ·rw[List.getElem?_drop]at hz;exact dh _ z hz
      ·cases hz
     split at ha
     ·split at ha
      ·rename_i v hv
       cases ha
       obtain⟨u,h1,h2,h3⟩:=Eo ho hn qw kP Gq Kw dj mG hv
       obtain⟨t1,t2,t3⟩:=Gs s7.rep Ol s7.z6
       have:=A6 (e:=.val v) (v:=u) (g':=g) (row':=af row k (cs.map AV.ir)) hI hB hX hg hr rfl (qa.refl w G) rfl ⟨t1,t2,.inr ⟨b,c,e,fj,eH,by rw[di];exact hle,gx,dh⟩⟩ hI.k9 (λb _ _=>⟨rfl,rfl⟩) (Nat.le_refl _) rfl rfl h2 λb'=>by
        have h4:=t3 b'
        have h5:=h3 b'
        simp only[cj]
        omega
       rw[ga _ _ _ hg]at this
       exact⟨u,h1,this⟩
      ·cases ha
     ·split at ha
      ·rename_i v hv
       cases ha
       obtain⟨u,h1,h2,h3⟩:=Eo ho hn qw kP Gq Kw dj.view mG hv
       refine⟨u,h1,iG.quiet hI hB h2 λd=>?_⟩
       simp only[cj,h3 d]
       rw[cW d _ _ (fJ cs)]
       omega
      ·cases ha
    ·cases ha
   ·cases ha
  ·cases ha
 ·cases ha
theorem A7 (b:Nat):∀(n:Nat)(rs:List (List AV))(xs:List (List Value)),eX b (rs.take n) (xs.take n)<=eX b rs xs
 |0,rs,xs=>by simp[eX]
 |n+1,[],xs=>by simp[eX]
 |n+1,r::rs,[]=>by simp[eX]
 |n+1,r::rs,x::xs=>by
  have:=A7 b n rs xs
  simp only[List.take_succ_cons,eX];omega
theorem Om {t e:TypeId}{x hi:Operand}{sz:Nat}(ho:o.op=.slice t x none (some hi) none)(hu:P.underlying t=some (.slice e))(dZ:ck P e sz=true){st:an}{bx:aX}(hI:Inv w G st)(hB:jq w G β bx){cO:Nat->Nat}(hX:∀b,cO b+fC b β bx+bY b G.ls st<=1)
  {a h:AV} (ha:aN w G a (ρ x)) (hh:aN w G h (ρ hi)) {wl aa:Nat} {bP:an} {eR:aX} {r:dX} (zK:aL wl aa (.vZ sz) [.val a,.val h] st bx=some (r,bP,eR)) :
  ∃v G',(execOp ρ o).run P w=.ok (.value v) w/\iG w G β st bx cO w G' β bP eR r v:=by
 unfold aL at zK
 simp only at zK
 split at zK
 ·rename_i id bU n heq
  cases heq
  split at zK
  ·rename_i v s rows fm
   split at zK
   ·rename_i hc
    simp only[Bool.and_eq_true,decide_eq_true_eq]at hc
    obtain⟨⟨⟨⟨rfl,rfl⟩,h0⟩,h1⟩,_⟩:=hc
    cases zK
    obtain⟨loc,hl,yU,yV,gi⟩:=hI.loc fm
    generalize Gd:ρ x=xv at ha
    cases ha with
    |mu _ _ _ loc' hp nR CH he=>
    rw[hl]at nR;cases nR
    have cx:=he (by omega)
    subst cx
    have eS:rows.length<=loc.cap:=by
     rcases gi.nS with⟨h0,h1,_⟩|⟨b,off,c,e',qJ,eS,eH,dZ,hlen,gx,dh⟩
     ·rw[h1];simp
     ·exact hlen
    have hhv:=hh.eZ
    have af0:(execOp ρ o).run P w=.ok (.value (.slice loc.a n.toNat loc.cap)) w:=by
     simp only[execOp,ho,Gd,Sem.run_bind]
     have hb:(Instr.sliceBounds true loc.len loc.cap none (some (ρ hi)) none).run P w=.ok (0,n.toNat,loc.cap) w:=by
      have:=jG (P:=P) (tr:=true) (len:=loc.len) (cap:=loc.cap) (lo:=none) (hi:=some hi) (ρ:=ρ) (a:=0) (b:=n) (.inl ⟨rfl,rfl⟩) (.inr ⟨hi,rfl,hhv⟩) (by omega) h0 (by omega) w
      simpa using this
     simp only[Instr.sliceAt,Sem.run_bind,run_underlying hu,Result.andThen_ok,Instr.slice,Option.map_none,Option.map_some,hb,dG dZ,Sem.run_pure]
     rcases gi.nS with⟨h0,h1,_⟩|⟨b,off,c,e',qJ,eS,eH,dZ,hlen,gx,dh⟩
     ·simp[h0]
     ·simp[qJ,j9,show ¬loc.cap=0 by omega]
    have zH:qa w G w (G.at id ⟨loc.a,loc.cap,n.toNat,loc.sz,v+1,false,loc.vals.take n.toNat⟩):=I2 hl (by simp;omega) λh=>by rcases h with h|h<;>simp_all<;>omega
    refine⟨_,_,af0,qh (loc':=⟨loc.a,loc.cap,n.toNat,loc.sz,v+1,false,loc.vals.take n.toNat⟩) hI hB hX hl fm zH rfl ⟨rfl,rfl,?_⟩ hI.k9 (λb _ _=>⟨rfl,rfl⟩) (Nat.le_refl _) rfl rfl (.mu _ _ _ _ ⟨_,_,_,rfl⟩ (by simp only[aM.at];rw[List.getElem?_set,if_pos rfl,if_pos (List.getElem?_eq_some_iff.1 hl).1]) (Nat.le_refl _) λ_=>rfl) λb=>?_⟩
    ·have hold:=nT.iB (w':=w) (show nT w G (.rows v s rows) loc from⟨yU,yV,gi⟩) zH λb _=>⟨rfl,rfl⟩
     obtain⟨_,_,h3⟩:=hold
     refine⟨b9.2 λr hr=>b9.1 h3.fit r (List.mem_of_mem_take hr),λr hr=>h3.z6 r (List.mem_of_mem_take hr),by simp;omega,h3.size,by simp[h3.qv],λi r xs e1 e2=>?_,?_⟩
     ·simp only at e2
      rw[List.getElem?_take]at e1 e2
      split at e1
      ·rename_i aV;rw[if_pos aV]at e2;exact h3.qP i r xs e1 e2
      ·cases e1
     ·rcases h3.nS with⟨h0,h1,h2⟩|⟨b,off,c,e',qJ,eS,eH,dZ,hlen,gx,dh⟩
      ·exact .inl ⟨h0,by rw[h1];simp,h2⟩
      ·refine .inr ⟨b,off,c,e',qJ,eS,eH,dZ,by simp;omega,gx,λi xs j z e1 e2=>?_⟩
       simp only at e1
       rw[List.getElem?_take]at e1
       split at e1
       ·exact dh i xs j z e1 e2
       ·cases e1
    ·have h2:=A7 b n.toNat rows loc.vals
     simp only[cj,eP]
     show 0+((if loc.iZ=some b then 1 else 0)+eX b (rows.take n.toNat) (loc.vals.take n.toNat))<=cO b+((if loc.iZ=some b then 1 else 0)+eX b rows loc.vals)+_
     omega
   ·cases zK
  ·cases zK
 ·cases zK
end Ax
namespace Ax
open Go
variable {P:Program}{w w':World}{G G':aM}{β fQ:List k8}{ρ:Operand->Value}{o:Oper}
theorem A8 {r:Nat}{es:Array MapEntry}{clock:Nat}{ob:Obj}(h:w.heap[r]?=some (.map es clock)):(setObj r ob).run P w=.ok () { w with heap:=w.heap.setIfInBounds r ob }:=by
 simp[setObj,Sem.run,h]
theorem Jb {t:TypeId}{kk:SK}(ht:nB P t kk=true){k v:AV}{x y:Value}(hk:aN w G k x)(hv:aN w G v y)(VJ:k.bX=true)(Td:v.bX=true):∀(es tu:List (AV×AV))(fs:List MapEntry),wk w G es fs->CQ kk k v es=some tu->
  (∃i e u,pY kk k es=some (some u)/\fs[i]?=some e/\(∀(q:Option (Nat×Value)),(Instr.findKey t x fs).run P w=.ok q w->∃val,q=some (i,val))/\CF kk k (es[i]?.map (·.1) |>.getD .undef)=some true/\(∃a,es[i]?=some a/\aN w G a.1 e.key)/\wk w G tu (fs.set i { e with key:=x,val:=y }))\/
  (pY kk k es=some none/\∀born,wk w G tu (fs++[{ key:=x,val:=y,born:=born }])):=by
 have hu:∃d,P.underlying t=some d:=by
  unfold nB at ht
  cases kk<;>simp only at ht<;>split at ht<;>(try cases ht)<;>exact⟨_,by assumption⟩
 obtain⟨d,hu⟩:=hu
 intro es
 induction es with
 |nil=>
  intro tu fs hM h
  simp only[CQ,Option.some.injEq]at h
  subst h
  have h0:fs=[]:=List.eq_nil_of_length_eq_zero (by simpa using hM.1)
  subst h0
  refine .inr ⟨rfl,λborn=>⟨rfl,λi a b e h1 h2=>?_⟩⟩
  cases i with
  |zero=>simp at h1 h2;obtain⟨rfl,rfl⟩:=h1;subst h2;exact⟨hk,hv,Td,VJ⟩
  |succ i=>simp at h1
 |cons c es ih=>
  intro tu fs hM h
  obtain⟨a,u⟩:=c
  cases fs with
  |nil=>have:=hM.1;simp at this
  |cons f fs=>
   obtain⟨g1,g2,g3,g4⟩:=hM.2 0 a u f rfl rfl
   simp only[CQ]at h
   split at h
   ·rename_i he
    cases h
    refine .inl ⟨0,f,u,by simp[pY,he],rfl,λq hq=>?_,by simpa using he,⟨(a,u),rfl,g1⟩,?_⟩
    ·have hs:=rH ht hu he hk g1
     have:(Instr.findKey t x (f::fs)).run P w=.ok (some (0,f.val)) w:=by simp[Instr.findKey,run_underlying hu,Instr.findNow,hs]
     rw[this]at hq;cases hq;exact⟨_,rfl⟩
    ·refine⟨by simpa using hM.1,λi p q e h1 h2=>?_⟩
     cases i with
     |zero=>simp at h1 h2;obtain⟨rfl,rfl⟩:=h1;subst h2;exact⟨hk,hv,Td,VJ⟩
     |succ i=>exact hM.2 (i+1) p q e (by simpa using h1) (by simpa using h2)
   ·rename_i he
    split at h
    ·rename_i r' vu
     cases h
     have hs:=rH ht hu he hk g1
     have VK:∀es2 fs2,wk w G es2 fs2->wk w G ((a,u)::es2) (f::fs2):=λes2 fs2 h2=>⟨by simp[h2.1],λi p q e e1 e2=>by
      cases i with
      |zero=>simp at e1 e2;obtain⟨rfl,rfl⟩:=e1;subst e2;exact⟨g1,g2,g3,g4⟩
      |succ i=>exact h2.2 i p q e (by simpa using e1) (by simpa using e2)⟩
     rcases ih r' fs hM.tail vu with⟨i,e,u',f1,f2,f3,f4,f5,f6⟩|⟨f1,f2⟩
     ·refine .inl ⟨i+1,e,u',by simp[pY,he,f1],by simpa using f2,λq hq=>?_,by simpa using f4,by simpa using f5,by simpa using VK _ _ f6⟩
      obtain⟨q0,e1,e2⟩:=rI ht hu hk es fs 0 _ hM.tail f1
      obtain⟨q1,e3,e4⟩:=rI ht hu hk es fs 1 _ hM.tail f1
      obtain⟨j0,e0,a1,_⟩:=e2
      obtain⟨j1,e0',b1,b2,_⟩:=e4
      have h0:(Instr.findKey t x fs).run P w=.ok q0 w:=by simp[Instr.findKey,run_underlying hu,e1]
      obtain⟨val,cx⟩:=f3 q0 h0
      have:(Instr.findKey t x (f::fs)).run P w=.ok q1 w:=by simp[Instr.findKey,run_underlying hu,Instr.findNow,hs,e3]
      rw[this]at hq;cases hq
      have key:∀(fs:List MapEntry) (s:Nat) (q:Option (Nat×Value)),Instr.findNow d x fs s=some q->Instr.findNow d x fs (s+1)=some (q.map λz=>(z.1+1,z.2)):=by
       intro fs
       induction fs with
       |nil=>intro s q h;simp[Instr.findNow]at h ⊢;subst h;rfl
       |cons f fs ih=>
        intro s q h
        simp only[Instr.findNow]at h ⊢
        cases hsn:Instr.sameNow d x f.key with
        |none=>rw[hsn]at h;simp at h
        |some b=>
         rw[hsn]at h
         cases b with
         |true=>simp at h ⊢;subst h;rfl
         |false=>simp at h ⊢;exact ih _ _ h
      have h3:=key fs 0 q0 e1
      rw[Nat.zero_add]at h3
      rw[e3]at h3
      cases h3
      rw[cx]
      exact⟨val,rfl⟩
     ·exact .inr ⟨by simp[pY,he,f1],λborn=>VK _ _ (f2 born)⟩
    ·cases h
   ·cases h
theorem Gt {kk:SK}{a b:AV}{x y:Value}(h:CF kk a b=some true)(ha:aN w G a x)(hb:aN w G b y)(n:Nat):Instr.sameBits n y x=true:=by
 unfold CF at h
 split at h
 ·simp only[Option.some.injEq,beq_iff_eq]at h
  rw[ha.jc,hb.jc,h];simp[Instr.sameBits]
 ·split at h
  ·rename_i de
   subst de
   simp only[Option.some.injEq,beq_iff_eq]at h
   rw[ha.eZ,hb.eZ,h];simp[Instr.sameBits]
  ·cases h
 ·simp only[Option.some.injEq,beq_iff_eq]at h
  obtain⟨s,rfl,rfl⟩:=ha.k5
  obtain⟨s',rfl,h2⟩:=hb.k5
  have:s=s':=ByteArray.ext (Array.toList_inj.1 (h.trans h2.symm))
  subst this
  simp only[Instr.sameBits]
  rw[beq_toListBytes];exact beq_self_eq_true _
 ·cases h
theorem y7 {t kt et:TypeId}{m k x:Operand}(ho:o.op=.mapUpdate t m k x\/o.op=.insert t m k x)(hu:P.underlying t=some (.map kt et)){kk:SK}(ht:nB P kt kk=true){st:an}{bx:aX}(hI:Inv w G st)(hB:jq w G β bx){cO:Nat->Nat}(hX:∀b,cO b+fC b β bx+bY b G.ls st<=1)
  {am ak av:AV} (hm:aN w G am (ρ m)) (hk:aN w G ak (ρ k)) (hv:aN w G av (ρ x)) {wl aa:Nat} {bP:an} {eR:aX} {r:dX} (ha:aL wl aa (.mapUpdate kk) [.val am,.val ak,.val av] st bx=some (r,bP,eR)) :
  ∃w' G',(execOp ρ o).run P w=.ok .skip w'/\iG w G β st bx cO w' G' β bP eR r undef:=by
 unfold aL at ha
 simp only at ha
 split at ha
 ·rename_i id k0 v0 heq
  cases heq
  split at ha
  ·rename_i es fm
   split at ha
   ·rename_i ju
    simp only[Bool.and_eq_true]at ju
    split at ha
    ·rename_i tu L6
     cases ha
     have VJ:ak.bX=true:=by
      have:=ju.1
      unfold isKey at this
      split at this<;>first|rfl|cases this
     obtain⟨loc,hl,SO⟩:=hI.loc fm
     obtain⟨g1,g2,b,fs,clock,g3,g4,g5,g6,g7⟩:=SO
     have hmv:ρ m=.map (some b):=by
      generalize ρ m=mv at hm
      cases hm with
      |map _ loc' bk nR yU lO=>rw[hl]at nR;cases nR;rw[lO]at g3;cases g3;rfl
     have fj:loc.iZ=some b:=by unfold Loc.iZ;rw[if_neg (by omega),g3];rfl
     have hM:wk w G es fs.toList:=⟨by simpa using g6,λi a v e e1 e2=>g7 i a v e e1 (by simpa using e2)⟩
     have S1:(getObj b).run P w=.ok (.map fs clock) w:=by simp[getObj,Sem.run,g4]
     have Z1:=run_checkKey (w:=w) ht false 9999 (ρ k)
     have fin:∀(fs':Array MapEntry) (Ew:Nat),wk w G tu fs'.toList->
       iG w G β st bx cO { w with heap:=w.heap.setIfInBounds b (.map fs' Ew) } ⟨(G.at id loc).ls,λb'=>if b'=b then some 0 else G.kL b'⟩ β (st.set id (.map tu)) bx .none undef:=by
      intro fs' Ew hM'
      have aV:b<w.heap.size:=(Array.getElem?_eq_some_iff.1 g4).1
      have hW:Wr w G { w with heap:=w.heap.setIfInBounds b (.map fs' Ew) } ⟨(G.at id loc).ls,λb'=>if b'=b then some 0 else G.kL b'⟩ b:=
       ⟨by simp,λb' lO=>by simp only[Array.getElem?_setIfInBounds];rw[if_neg λe=>lO e.symm],λb' lO=>by simp[lO],⟨0,0,g5,by simp,Nat.le_refl _,λo ho=>by omega⟩,A2 hl (Nat.le_refl _) λ_=>rfl⟩
      refine qh hI hB hX hl fm hW.iB rfl ⟨g1,g2,b,fs',Ew,g3,?_,by simp,by simpa using hM'.1,λi a v e e1 e2=>?_⟩ (hW.k9 hI) (λb' _ lO=>hW.iD λe=>lO (by rw[fj,e])) (by simp) rfl rfl trivial λb'=>by simp only[cj,gz];omega
      ·simp only[Array.getElem?_setIfInBounds];rw[if_pos trivial,if_pos aV]
      ·obtain⟨h1,h2,h3,h4⟩:=hM'.2 i a v e e1 (by simpa using e2)
       exact⟨h1.iB hW.iB λb hb=>by rw[eu b a _ h4]at hb;omega,h2.iB hW.iB λb hb=>by rw[eu b v _ h3]at hb;omega,h3,h4⟩
     have head:∀(w':World),(Instr.mapUpdate t (.map (some b)) (ρ k) (ρ x)).run P w=.ok () w'->(execOp ρ o).run P w=.ok .skip w':=by
      intro w' h
      rcases ho with ho|ho<;>simp only[execOp,ho,hmv,Sem.run_bind,h,Result.andThen_ok,Sem.run_pure]
     rcases Jb ht hk hv.view VJ (rG av) es tu fs.toList hM L6 with⟨i,e,u,f1,f2,f3,f4,⟨a,f5,f6⟩,f7⟩|⟨f1,f2⟩
     ·obtain⟨q,e1,e2⟩:=run_findKey ht hk hM f1 w
      obtain⟨val,rfl⟩:=f3 q e1
      have VL:fs[i]?=some e:=by simpa using f2
      refine⟨_,_,head _ ?_,fin (fs.modify i λe=>{ e with key:=ρ k,val:=ρ x }) clock ?_⟩
      ·rw[f5]at f4
       have hsb:=Gt f4 hk f6 10000
       simp only[Instr.mapUpdate,Sem.run_bind,run_underlying hu,Result.andThen_ok,S1,Z1,e1,VL,Option.map_some,Option.getD_some,Instr.keyThatStays,hsb,if_true,Sem.run_pure,A8 g4]
      ·have:(fs.modify i λe=>{ e with key:=ρ k,val:=ρ x }).toList=fs.toList.set i { e with key:=ρ k,val:=ρ x }:=by
        rw[Array.toList_modify]
        apply List.ext_getElem?
        intro j
        rw[List.getElem?_modify,List.getElem?_set]
        by_cases zG:i=j
        ·subst zG
         simp[(Array.getElem?_eq_some_iff.1 VL).1,(Array.getElem?_eq_some_iff.1 VL).2]
        ·simp[zG]
       rw[this]
       exact f7
     ·obtain⟨q,e1,e2⟩:=run_findKey ht hk hM f1 w
      simp only at e2
      subst e2
      refine⟨_,_,head _ ?_,fin (fs.push { key:=ρ k,val:=ρ x,born:=clock }) (clock+1) (by rw[Array.toList_push];exact f2 clock)⟩
      simp only[Instr.mapUpdate,Sem.run_bind,run_underlying hu,Result.andThen_ok,S1,Z1,e1,A8 g4]
    ·cases ha
   ·cases ha
  ·cases ha
 ·cases ha
end Ax
namespace Ax
open Go
variable {P:Program}{w w':World}{G G':aM}{β fQ:List k8}{ρ:Operand->Value}{o:Oper}
structure F3 (w:World)(G:aM)(st:an)(G':aM)(bP:an):Prop where
 iB:qa w G w G'
 inv:Inv w G' bP
 eP:∀b,bY b G'.ls bP<=bY b G.ls st
 tH:∀b,bY b G.ls st=0->G'.kL b=G.kL b
theorem F3.refl {st:an}(hI:Inv w G st):F3 w G st G st:=⟨qa.refl w G,hI,λ_=>Nat.le_refl _,λ_ _=>rfl⟩
theorem F3.trans {G1 G2:aM}{st lz lN:an}(h:F3 w G st G1 lz)(k:F3 w G1 lz G2 lN):F3 w G st G2 lN:=
 ⟨h.iB.trans k.iB,k.inv,λb=>Nat.le_trans (k.eP b) (h.eP b),λb hb=>(k.tH b (by have:=h.eP b;omega)).trans (h.tH b hb)⟩
mutual
theorem tM:∀a:AV,a.au=true->a.view.au=true
 |.own _ _,_=>by simp[AV.view,AV.au]
 |.raw _ _,_=>by simp[AV.view,AV.au]
 |.agg cs,h=>by simp only[AV.view,AV.au]at *;exact nj cs h
 |.fz cs,h=>by simp only[AV.view,AV.au]at *;exact nj cs h
 |.undef,h|.gone,h|.bool _,h|.int _ _,h|.str _,h|.eC,h|.U,h|.fh,h|.gV,h|.jt,h|.cU _ _,h|.emp,h|.mu _ _,h|.ptr _ _ _ _,h|.n8 _ _ _ _,h|.map _,h|.fn _ _ _,h=>by simpa [AV.view] using h
theorem nj:∀cs:List AV,AV.ai cs=true->AV.ai (AV.cz cs)=true
 |[],_=>rfl
 |c::cs,h=>by
  simp only[AV.ai,Bool.and_eq_true]at h
  simp only[AV.cz,AV.ai,tM c h.1,nj cs h.2,Bool.and_self]
end
theorem aN.ym {a:AV}{v:Value}(h:aN w G a v)(hs:qa w G w' G')(hn:a.bX=true):aN w' G' a v:=h.iB hs λb hb=>by rw[eu b a v hn]at hb;omega
def jV (sz bU:Nat):Loc:=⟨some ⟨0,0,none⟩,0,0,sz,bU+1,false,[]⟩
theorem Ey (sz bU:Nat):nT w G (.rows (bU+1) sz []) (jV sz bU):=
 ⟨rfl,rfl,by simp[fits],by simp,rfl,rfl,rfl,λi r xs h=>by simp at h,.inl ⟨rfl,rfl,rfl⟩⟩
theorem Dq {st:an}(hI:Inv w G st){id bU sz:Nat}{rows:List (List AV)}{loc:Loc}(fm:st[id]?=some (.rows bU sz rows))(hl:G.ls[id]?=some loc)(yU:loc.mp=false)(yV:loc.bU=bU) :
  F3 w G st (G.at id (jV sz bU)) (st.set id (.rows (bU+1) sz []))/\∀b,bY b (G.at id (jV sz bU)).ls (st.set id (.rows (bU+1) sz []))+gz b loc (.rows bU sz rows)=bY b G.ls st:=by
 have hs:qa w G w (G.at id (jV sz bU)):=I2 hl (by simp only[jV];omega) λh=>by
  rcases h with h|h
  ·simp only[jV]at h;omega
  ·rw[yU]at h;cases h
 have hc:∀b,bY b (G.at id (jV sz bU)).ls (st.set id (.rows (bU+1) sz []))+gz b loc (.rows bU sz rows)=bY b G.ls st:=λb=>by
  have:=tG b G.ls st id loc _ (jV sz bU) (.rows (bU+1) sz []) hl fm
  have h0:gz b (jV sz bU) (.rows (bU+1) sz [])=0:=by simp[gz,jV,Loc.iZ,eX]
  rw[h0]at this
  exact this
 exact⟨⟨hs,z9 hI hs rfl (λ_ _ _ b _ _ _ _=>⟨rfl,rfl⟩) (Ey sz bU) hI.k9,λb=>by have:=hc b;omega,λ_ _=>rfl⟩,hc⟩
def aM.zM (G:aM)(b:Nat):aM:=⟨G.ls,λb'=>if b'=b then none else G.kL b'⟩
theorem Gu {st:an}(hI:Inv w G st){b:Nat}(hb:G.kL b=some 0)(h0:bY b G.ls st=0):qa w G w (G.zM b)/\Inv w (G.zM b) st:=by
 have hs:qa w G w (G.zM b):=⟨λb' o hi=>⟨rfl,hi.1,λp hp=>by
  simp only[aM.zM]at hp
  split at hp
  ·cases hp
  ·exact hi.2 p hp⟩,AZ G⟩
 refine⟨hs,tK hI hs rfl (λb' lO=>⟨?_,rfl⟩) λb' p hp=>?_⟩
 ·simp only[aM.zM];rw[if_neg];intro e;subst e;omega
 ·simp only[aM.zM]at hp
  split at hp
  ·cases hp
  ·exact hI.k9 b' p hp
theorem Gw {sz b off cap:Nat}{rows:List (List AV)}{vals:List (List Value)}(bn:fits sz rows=true)(gY:∀r∈rows,AV.aK r=true)(iY:∀r∈rows,AV.dz r=true)(nA:∀r∈rows,AV.ai r=true)
  (hlen:vals.length=rows.length) (abz:∀(i:Nat) r xs,rows[i]?=some r->vals[i]?=some xs->b8 w G r xs) (eS:rows.length<=cap) (hb:b<w.heap.size) (ht:G.kL b=none)
  (dh:∀(i:Nat) xs (j:Nat) x,vals[i]?=some xs->xs[j]?=some x->w.cell? ⟨b,off+(i*sz+j),none⟩=some x):aN w G (.cU sz rows) (.slice (some ⟨b,off,none⟩) rows.length cap):=by
 have key:∀(i:Nat) r (j:Nat) c,rows[i]?=some r->r[j]?=some c->∃v,w.cell? ⟨b,off+(i*sz+j),none⟩=some v/\aN w G c v:=by
  intro i r j c h1 h2
  have hi:i<vals.length:=by rw[hlen];exact(List.getElem?_eq_some_iff.1 h1).1
  have hv:=List.getElem?_eq_getElem hi
  obtain⟨e1,e2⟩:=abz i r _ h1 hv
  have hj:j<vals[i].length:=by rw[<-e1];exact(List.getElem?_eq_some_iff.1 h2).1
  exact⟨_,dh i _ j _ hv (List.getElem?_eq_getElem hj),e2 j c _ h2 (List.getElem?_eq_getElem hj)⟩
 refine .cU sz rows ⟨b,off,none⟩ cap rfl eS bn iY nA gY (λi r j c h1 h2=>⟨⟨hb,λp hp=>by simp only at hp;rw[ht]at hp;cases hp⟩,?_⟩) λi r j c v h1 h2 h3=>?_
 ·obtain⟨v,h,_⟩:=key i r j c h1 h2;exact⟨v,h⟩
 ·obtain⟨v',h,h'⟩:=key i r j c h1 h2
  rw[h]at h3;cases h3;exact h'
theorem Jc {wl:Nat}{st bP:an}{a a':AV}{v:Value}(hI:Inv w G st)(hX:∀b,bY b G.ls st<=1)(h:aN w G a v)(hf:p7 wl a st=some (a',bP)) :
  ∃G',F3 w G st G' bP/\aN w G' a' v/\a'.bX=true/\a'.au=true/\a'.cw=true:=by
 unfold p7 at hf
 split at hf
 ·rename_i id bU
  split at hf
  ·rename_i v0 sz rows fm
   split at hf
   ·rename_i hc
    simp only[Bool.and_eq_true,decide_eq_true_eq,Bool.not_eq_true',List.all_eq_true]at hc
    obtain⟨⟨⟨rfl,nA⟩,iQ⟩,_⟩:=hc
    cases hf
    obtain⟨loc,hl,yU,yV,gi⟩:=hI.loc fm
    cases h with
    |mu _ _ _ loc' hp nR CH he=>
    rw[hl]at nR;cases nR
    have cx:=he (by omega)
    subst cx
    rcases gi.nS with⟨_,qx,_⟩|⟨b,off,c,e',qJ,eS,eH,dZ,hlen,gx,dh⟩
    ·subst qx;simp at iQ
    obtain⟨f1,f2⟩:=Dq hI fm hl yU yV
    have fj:loc.iZ=some b:=by unfold Loc.iZ;rw[if_neg (by omega),qJ];rfl
    have h0:bY b (G.at id (jV sz v0)).ls (st.set id (.rows (v0+1) sz []))=0:=by
     have h1:=f2 b
     have h2:=hX b
     simp only[gz,fj,if_true]at h1
     omega
    obtain⟨g1,g2⟩:=Gu f1.inv (b:=b) (by exact gx) h0
    refine⟨(G.at id (jV sz v0)).zM b,⟨f1.iB.trans g1,g2,f1.eP,λb' lO=>?_⟩,?_,by simp[AV.bX],by simp[AV.au],by simp[AV.cw]⟩
    ·simp only[aM.zM,aM.at]
     rw[if_neg]
     intro e;subst e
     have h1:=f2 b'
     simp only[gz,fj,if_true]at h1
     omega
    ·rw[qJ,gi.len,show rows.length=(rows.map AV.cz).length by simp]
     refine Gw (vals:=loc.vals) (b9.2 λr hr=>?_) (λr hr=>?_) (λr hr=>?_) (λr hr=>?_) (by simpa using gi.qv) (λi r xs h1 h2=>?_) (by simpa using hlen) (Array.getElem?_eq_some_iff.1 eH).1 (by simp[aM.zM]) dh
     ·obtain⟨r',vu,rfl⟩:=List.mem_map.1 hr
      rw[lU];exact b9.1 gi.fit r' vu
     ·obtain⟨r',vu,rfl⟩:=List.mem_map.1 hr
      rw[pe];exact gi.z6 r' vu
     ·obtain⟨r',vu,rfl⟩:=List.mem_map.1 hr
      exact fJ r'
     ·obtain⟨r',vu,rfl⟩:=List.mem_map.1 hr
      exact nj r' (nA r' vu)
     ·simp only[List.getElem?_map,Option.map_eq_some_iff]at h1
      obtain⟨r',h1,rfl⟩:=h1
      refine(gi.qP i r' xs h1 h2).view.mono (f1.iB.trans g1) λb' lO=>?_
      rw[cW b' _ _ (fJ r')]at lO;omega
   ·cases hf
  ·cases hf
 ·split at hf
  ·rename_i hc
   simp only[Bool.and_eq_true]at hc
   cases hf
   exact⟨G,F3.refl hI,h.view,rG a,tM a hc.1,by rw[yZ];exact hc.2⟩
  ·cases hf
theorem A9 {wl:Nat}:∀{l l':List AV}{xs:List Value}{G:aM}{st bP:an},Inv w G st->(∀b,bR b l xs+bY b G.ls st<=1)->b8 w G l xs->kA wl l st=some (l',bP)->
  ∃G',F3 w G st G' bP/\b8 w G' l' xs/\AV.dz l'=true/\AV.ai l'=true/\AV.aK l'=true
 |[],l',xs,G,st,bP,hI,hX,h,hf=>by
  simp only[kA,Option.some.injEq,Prod.mk.injEq]at hf
  obtain⟨rfl,rfl⟩:=hf
  exact⟨G,F3.refl hI,h,rfl,rfl,rfl⟩
 |a::l,l',xs,G,st,bP,hI,hX,h,hf=>by
  simp only[kA]at hf
  split at hf
  ·rename_i a1 lz h1
   split at hf
   ·rename_i l2 lN h2
    cases hf
    cases xs with
    |nil=>have:=h.1;simp at this
    |cons x xs=>
    obtain⟨G1,f1,f2,f3,f4,f5⟩:=Jc hI (λb=>by have:=hX b;omega) (h.2 0 a x rfl rfl) h1
    have On:b8 w G l xs:=⟨by simpa using h.1,λi c v e1 e2=>h.2 (i+1) c v (by simpa using e1) (by simpa using e2)⟩
    have hX1:∀b,bR b l xs+bY b G1.ls lz<=1:=λb=>by
     have e1:=hX b
     have e2:=f1.eP b
     simp only[bR]at e1
     omega
    obtain⟨G2,g1,g2,g3,g4,g5⟩:=A9 f1.inv hX1 (On.mono f1.iB λb hb=>⟨f1.tH b (by have:=hX b;simp only[bR]at this;omega),rfl⟩) h2
    refine⟨G2,f1.trans g1,⟨by simp[g2.1],λi c v e1 e2=>?_⟩,by simp[AV.dz,f3,g3],by simp[AV.ai,f4,g4],?_⟩
    ·cases i with
     |zero=>simp at e1 e2;subst e1;subst e2;exact f2.ym g1.iB f3
     |succ i=>exact g2.2 i c v (by simpa using e1) (by simpa using e2)
    ·simp only[AV.aK,List.all_cons,Bool.and_eq_true]at g5 ⊢
     exact⟨f5,g5⟩
   ·cases hf
  ·cases hf
theorem tN {wl:Nat}:∀{l l':List AV}{st bP:an},kA wl l st=some (l',bP)->l'.length=l.length
 |[],l',st,bP,hf=>by simp only[kA,Option.some.injEq,Prod.mk.injEq]at hf;obtain⟨rfl,_⟩:=hf;rfl
 |a::l,l',st,bP,hf=>by
  simp only[kA]at hf
  split at hf
  ·split at hf
   ·rename_i h2;cases hf;simp[tN h2]
   ·cases hf
  ·cases hf
theorem y8 {wl:Nat}:∀{l l':List (List AV)}{xs:List (List Value)}{G:aM}{st bP:an},Inv w G st->(∀b,eX b l xs+bY b G.ls st<=1)->l.length=xs.length->(∀(i:Nat) r x,l[i]?=some r->xs[i]?=some x->b8 w G r x)->kW wl l st=some (l',bP)->
  ∃G',F3 w G st G' bP/\l'.length=l.length/\(∀(i:Nat) r x,l'[i]?=some r->xs[i]?=some x->b8 w G' r x)/\(∀(i:Nat) r r',l[i]?=some r->l'[i]?=some r'->r'.length=r.length)/\(∀r∈l',AV.dz r=true)/\(∀r∈l',AV.ai r=true)/\(∀r∈l',AV.aK r=true)
 |[],l',xs,G,st,bP,hI,hX,hl,h,hf=>by
  simp only[kW,Option.some.injEq,Prod.mk.injEq]at hf
  obtain⟨rfl,rfl⟩:=hf
  exact⟨G,F3.refl hI,rfl,h,λi r r' e=>by simp at e,by simp,by simp,by simp⟩
 |a::l,l',xs,G,st,bP,hI,hX,hl,h,hf=>by
  simp only[kW]at hf
  split at hf
  ·rename_i a1 lz h1
   split at hf
   ·rename_i l2 lN h2
    cases hf
    cases xs with
    |nil=>simp at hl
    |cons x xs=>
    obtain⟨G1,f1,f2,f3,f4,f5⟩:=A9 hI (λb=>by have:=hX b;simp only[eX]at this;omega) (h 0 a x rfl rfl) h1
    have hX1:∀b,eX b l xs+bY b G1.ls lz<=1:=λb=>by
     have e1:=hX b
     have e2:=f1.eP b
     simp only[eX]at e1
     omega
    obtain⟨G2,g1,g2,g3,g4,g5,g6,g7⟩:=y8 f1.inv hX1 (by simpa using hl) (λi r y e1 e2=>(h (i+1) r y (by simpa using e1) (by simpa using e2)).mono f1.iB λb hb=>⟨f1.tH b (by
     have e3:=hX b
     have e4:=uJ b l xs i r y e1 e2
     simp only[eX]at e3;omega),rfl⟩) h2
    refine⟨G2,f1.trans g1,by simp[g2],λi r y e1 e2=>?_,λi r r' e1 e2=>?_,λr hr=>?_,λr hr=>?_,λr hr=>?_⟩
    ·cases i with
     |zero=>simp at e1 e2;subst e1;subst e2;exact f2.mono g1.iB λb hb=>by rw[cW b _ _ f3]at hb;omega
     |succ i=>exact g3 i r y (by simpa using e1) (by simpa using e2)
    ·cases i with
     |zero=>simp at e1 e2;subst e1;subst e2;exact tN h1
     |succ i=>exact g4 i r r' (by simpa using e1) (by simpa using e2)
    ·rcases List.mem_cons.1 hr with rfl|hr
     ·exact f3
     ·exact g5 r hr
    ·rcases List.mem_cons.1 hr with rfl|hr
     ·exact f4
     ·exact g6 r hr
    ·rcases List.mem_cons.1 hr with rfl|hr
     ·exact f5
     ·exact g7 r hr
   ·cases hf
  ·cases hf
theorem wu {wl:Nat}{st bP:an}{a a':AV}{v:Value}(hI:Inv w G st)(hX:∀b,bY b G.ls st<=1)(h:aN w G a v)(hf:jy wl a st=some (a',bP)) :
  ∃G',F3 w G st G' bP/\aN w G' a' v/\a'.bX=true:=by
 unfold jy at hf
 split at hf
 ·rename_i id bU
  split at hf
  ·rename_i v0 sz rows fm
   split at hf
   ·rename_i hc
    simp only[Bool.and_eq_true,decide_eq_true_eq,Bool.not_eq_true']at hc
    obtain⟨⟨rfl,iQ⟩,_⟩:=hc
    split at hf
    ·rename_i dJ lz F1
     cases hf
     obtain⟨loc,hl,yU,yV,gi⟩:=hI.loc fm
     cases h with
     |mu _ _ _ loc' hp nR CH he=>
     rw[hl]at nR;cases nR
     have cx:=he (by omega)
     subst cx
     rcases gi.nS with⟨_,qx,_⟩|⟨b,off,c,e',qJ,eS,eH,dZ,hlen,gx,dh⟩
     ·subst qx;simp at iQ
     obtain⟨f1,f2⟩:=Dq hI fm hl yU yV
     have fj:loc.iZ=some b:=by unfold Loc.iZ;rw[if_neg (by omega),qJ];rfl
     have hX1:∀b',eX b' rows loc.vals+bY b' (G.at id (jV sz v0)).ls (st.set id (.rows (v0+1) sz []))<=1:=λb'=>by
      have h1:=f2 b'
      have h2:=hX b'
      simp only[gz]at h1
      omega
     obtain⟨G2,g1,g2,g3,g4,g5,g6,g7⟩:=y8 f1.inv hX1 gi.qv.symm (λi r y e1 e2=>(gi.qP i r y e1 e2).mono f1.iB λb _=>⟨rfl,rfl⟩) F1
     have h0:bY b (G.at id (jV sz v0)).ls (st.set id (.rows (v0+1) sz []))=0:=by
      have h1:=f2 b
      have h2:=hX b
      simp only[gz,fj,if_true]at h1
      omega
     have ht2:G2.kL b=some 0:=(g1.tH b h0).trans gx
     obtain⟨k1,k2⟩:=Gu g1.inv ht2 (by have:=g1.eP b;omega)
     refine⟨G2.zM b,⟨(f1.iB.trans g1.iB).trans k1,k2,λb'=>Nat.le_trans (g1.eP b') (f1.eP b'),λb' lO=>?_⟩,?_,by simp[AV.bX]⟩
     ·have hbb:b'≠b:=by
       intro e;subst e
       have h1:=f2 b'
       simp only[gz,fj,if_true]at h1
       omega
      simp only[aM.zM]
      rw[if_neg hbb]
      exact g1.tH b' (by have:=f1.eP b';omega)
     ·rw[qJ,gi.len,<-g2]
      refine Gw (vals:=loc.vals) (b9.2 λr hr=>?_) g7 g5 g6 (by rw[gi.qv,g2]) (λi r xs h1 h2=>(g3 i r xs h1 h2).mono k1 λb' lO=>by rw[cW b' _ _ (g5 r (cG h1))]at lO;omega) (by rw[g2];exact hlen) (Array.getElem?_eq_some_iff.1 eH).1 (by simp[aM.zM]) dh
      obtain⟨i,hi,rfl⟩:=List.mem_iff_getElem.1 hr
      have oM:i<rows.length:=by rw[<-g2];exact hi
      rw[g4 i rows[i] dJ[i] (List.getElem?_eq_getElem oM) (List.getElem?_eq_getElem hi)]
      exact b9.1 gi.fit _ (List.getElem_mem oM)
    ·cases hf
   ·cases hf
  ·cases hf
 ·cases hf
  cases h
  exact⟨G,F3.refl hI,.U,rfl⟩
 ·cases hf
end Ax
namespace Ax
open Go
variable {P:Program}{w w':World}{G G':aM}{β fQ:List k8}{ρ:Operand->Value}{o:Oper}
theorem wZ {sz:Nat}{α:Type}:∀(n:Nat)(rows:List (List α)),(∀r∈rows,r.length=sz)->rows.flatten.drop (n*sz)=(rows.drop n).flatten
 |0,rows,_=>by simp
 |n+1,[],_=>by simp
 |n+1,r::rows,h=>by
  have h0:r.length=sz:=h r (by simp)
  have ih:=wZ n rows λx hx=>h x (by simp[hx])
  rw[List.drop_succ_cons,List.flatten_cons,<-ih,Nat.succ_mul,Nat.add_comm,<-List.drop_drop,<-h0,List.drop_left]
theorem WS {t tx ty e:TypeId}{sz:Nat}(ht:P.underlying t=some (.slice e))(dZ:ck P e sz=true)(hk:(∃e',P.underlying tx=some (.slice e'))\/P.underlying tx=some .string)
  {st:an} {bx:aX} (hI:Inv w G st) (hB:jq w G β bx) {cO:Nat->Nat} (hX:∀b,cO b+fC b β bx+bY b G.ls st<=1)
  {s x:AV} {vs vx:Value} (hs:aN w G s vs) (hx:aN w G x vx) {wl aa:Nat} {bP:an} {eR:aX} {r:dX} (ha:aL wl aa (.copy sz) [.val s,.val x] st bx=some (r,bP,eR)) :
  ∃v w' G',(Builtin.copy_ #[t,tx] ty #[vs,vx]).run P w=.ok v w'/\iG w G β st bx cO w' G' β bP eR r v:=by
 obtain⟨i,hi,dZ⟩:∃i,P.info? e=some i/\i.size=sz:=by
  unfold ck at dZ
  split at dZ
  ·rename_i i hi;exact⟨i,hi,by simpa using dZ⟩
  ·cases dZ
 unfold aL at ha
 simp only at ha
 split at ha
 ·rename_i id bU x2 heq
  simp only[List.cons.injEq,dX.val.injEq,and_true]at heq
  obtain⟨rfl,rfl⟩:=heq
  split at ha
  ·rename_i v iP old new fm ov
   split at ha
   ·rename_i hc
    simp only[Bool.and_eq_true,decide_eq_true_eq]at hc
    obtain⟨⟨⟨⟨⟨rfl,rfl⟩,bn⟩,hle⟩,_⟩,_⟩:=hc
    cases ha
    obtain⟨news,dj,mD,gY,iY,_⟩:=uK hI hx ov bn hk
    have CW:∀b xs,bR b new.flatten xs=0:=λb xs=>cW b _ _ ((cm _).2 λx hx=>by
     obtain⟨r,hr,hx⟩:=List.mem_flatten.1 hx
     exact(cm r).1 (iY r hr) x hx)
    obtain⟨loc,hl,yU,yV,gi⟩:=hI.loc fm
    cases hs with
    |mu _ _ _ loc' hp nR CH he=>
    rw[hl]at nR;cases nR
    have cx:=he (by omega)
    subst cx
    obtain⟨F1,S6,hfv,Et⟩:=gi.flat
    have Z2:=b9.1 gi.fit
    have Ny:loc.vals.flatten.length=old.length*iP:=by rw[<-F1.1];exact eI old Z2
    have Nz:news.length=new.length*iP:=mD.newsLen
    have WU:Nat.min new.length loc.len=new.length:=by rw[gi.len];exact Nat.min_eq_left hle
    by_cases iQ:new=[]
    ·subst iQ
     have h0:news=[]:=List.eq_nil_of_length_eq_zero (by simpa using Nz)
     subst h0
     refine⟨.int .i64 0,w,G,?_,?_⟩
     ·have h1:=mD.len
      have h2:=mD.cells
      simp only[List.length_nil]at h1 h2 WU
      cases qJ:loc.a<;>simp[Builtin.copy_,run_underlying ht,Go.sizeOf,typeInfo,hi,dZ,h1,h2,WU,storeCells,goInt]
     ·have:st.set id (.rows v iP ([]++old.drop 0))=st:=ga st id _ (by simpa using fm)
      simp only[List.length_nil]at this ⊢
      rw[this]
      exact iG.quiet hI hB (.int _ _) λb=>by simp[cj,eP]
    ·have hn:0<new.length:=List.length_pos_iff.2 iQ
     rcases gi.nS with⟨h0,h1,_⟩|⟨b,off,c,e',qJ,eS,eH,af3,hlen,gx,dh⟩
     ·rw[h1]at hle;simp at hle;exact absurd hle iQ
     have Ja:off+news.length<=c.size:=by
      rw[Nz]
      have:new.length*iP<=loc.cap*iP:=Nat.mul_le_mul_right _ (by omega)
      omega
     have zJ:=fZ (P:=P) b off e' news c w eH Ja mD.one
     have e1:(Builtin.copy_ #[t,tx] ty #[.slice loc.a loc.len loc.cap,vx]).run P w=.ok (.int .i64 new.length) (w.setRow b (af c.toList off news).toArray):=by
      have h1:=mD.len
      have h2:=mD.cells
      simp[Builtin.copy_,run_underlying ht,Go.sizeOf,typeInfo,hi,dZ,h1,h2,WU,qJ,zJ,goInt]
     have iU:=tL bn (b:=old.drop new.length) (by rw[b9];exact λr hr=>Z2 r (List.mem_of_mem_drop hr))
     have VM:(new++old.drop new.length).length=old.length:=by simp;omega
     have qg:(new++old.drop new.length).flatten=new.flatten++old.flatten.drop (new.length*iP):=by rw[List.flatten_append,wZ _ _ Z2]
     let CZ:Loc:=⟨some ⟨b,off,none⟩,loc.cap,(new++old.drop new.length).length,iP,v,false,o6 iP (new++old.drop new.length).length (news++loc.vals.flatten.drop (new.length*iP))⟩
     have CU:∀(i:Nat) l,G.ls[i]?=some l->∃Tb,(G.at id CZ).ls[i]?=some Tb/\l.bU<=Tb.bU/\(l.bU=Tb.bU\/l.mp=true->Tb.hd=l.hd):=
      A2 hl (by simp only[CZ];omega) λ_=>by simp only[CZ,Loc.hd,qJ,VM,gi.len,gi.size,yU]
     have A4:(G.at id CZ).ls[id]?=some CZ:=by
      simp only[aM.at];rw[List.getElem?_set,if_pos rfl,if_pos (List.getElem?_eq_some_iff.1 hl).1]
     have hW:Wr w G (w.setRow b (af c.toList off news).toArray) ⟨(G.at id CZ).ls,λb'=>if b'=b then some 0 else G.kL b'⟩ b:=
      A3 eH Ja gx (Nat.zero_le _) (Nat.le_refl _) CU
     have fj:loc.iZ=some b:=by unfold Loc.iZ;rw[if_neg (by omega),qJ];rfl
     refine⟨_,_,⟨(G.at id CZ).ls,λb'=>if b'=b then some 0 else G.kL b'⟩,e1,?_⟩
     refine qh hI hB hX hl fm hW.iB rfl ⟨rfl,rfl,lZ (b:=b) (off:=off) (c:=(af c.toList off news).toArray) (e:=e') (xs:=news++loc.vals.flatten.drop (new.length*iP)) iU (ni gY λr hr=>gi.z6 r (List.mem_of_mem_drop hr)) ?_ rfl rfl rfl rfl eS (setRow_heap w b c _ e' (0,0) eH) (by rw[List.size_toArray,di];simpa using af3) (by rw[VM];exact hlen) (by simp) λk x hk=>?_⟩
      (hW.k9 hI) (λb' _ lO=>hW.iD λe=>lO (by rw[fj,e])) (by simp) rfl rfl (.int _ _) λb'=>?_
     ·rw[qg]
      refine(dj.mono hW.iB λb' lO=>by rw[CW]at lO;omega).append ((F1.drop _).mono hW.iB λb' lO=>hW.iD λe=>?_)
      subst e
      have h3:=uI b' (new.length*iP) _ _ F1.1
      rw[S6]at h3
      have h1:=hX b'
      have h2:=lX b' G.ls st id loc _ hl fm
      simp only[gz,fj,if_true]at h2
      omega
     ·rw[qf eH Ja]
      by_cases qL:k<news.length
      ·rw[List.getElem?_append_left qL]at hk
       rw[if_pos (by omega),show off+k-off=k by omega]
       exact hk
      ·rw[List.getElem?_append_right (by omega),List.getElem?_drop]at hk
       rw[if_neg (by omega)]
       have:=Et b off dh _ x hk
       rw[show new.length*iP+(k-news.length)=k by omega]at this
       exact this
     ·have Gp:CZ.iZ=loc.iZ:=by
       rw[fj];simp only[CZ];unfold Loc.iZ;rw[if_neg (show ¬loc.cap=0 by omega)];rfl
      simp only[cj,eP,gz]
      rw[Gp]
      simp only[CZ]
      rw[o8 b' (new++old.drop new.length) _ (b9.1 iU) (by rw[qg,List.length_append,List.length_append,dj.1,List.length_drop,List.length_drop,F1.1]),qg,eW b' _ _ _ _ dj.1,CW]
      have:=uI b' (new.length*iP) _ _ F1.1
      rw[S6]at this
      omega
   ·cases ha
  ·cases ha
 ·cases ha
theorem w6:∀{rows:List (List AV)}{l:List UInt8},bytesOf rows=some l->rows=ee l
 |[],l,h=>by simp[bytesOf]at h;subst h;rfl
 |r::rows,l,h=>by
  unfold bytesOf at h
  split at h
  ·rename_i heq;cases heq
  ·rename_i n r' heq
   simp only[List.cons.injEq]at heq
   obtain⟨rfl,rfl⟩:=heq
   split at h
   ·rename_i hn
    split at h
    ·rename_i l' nR
     cases h
     have:=w6 nR
     subst this
     have h2:(((UInt8.ofNat n.toNat).toNat:Nat):Int)=n:=by
      rw[UInt8.toNat_ofNat']
      omega
     show _=[AV.int .u8 (((UInt8.ofNat n.toNat).toNat:Nat):Int)]::ee l'
     rw[h2]
    ·cases h
   ·cases h
  ·cases h
theorem foldl_push (l:List UInt8):∀acc:ByteArray,List.foldl (λb a=>b.push a) acc l=⟨(acc.data.toList++l).toArray⟩:=by
 induction l with
 |nil=>intro acc;simp
 |cons b l ih=>
  intro acc
  rw[List.foldl_cons,ih]
  simp
theorem Tf {s d e:TypeId}{x:Operand}(ho:o.op=.convert s d x)(hs:P.underlying s=some (.slice e))(he:P.underlying e=some (.int .u8))(hd:P.underlying d=some .string){st:an}(hI:Inv w G st)
  {a:AV} (ha:aN w G a (ρ x)) {rows:List (List AV)} (hr:rowsOf st a=some rows) {l:List UInt8} (hl:bytesOf rows=some l):∃u,(execOp ρ o).run P w=.ok (.value u) w/\aN w G (.str l) u:=by
 have w7:=w6 hl
 subst w7
 have bn:fits 1 (ee l)=true:=by simp[fits,ee]
 have hb:dy st a=some (ee l):=by
  unfold dy
  split
  ·simp[rowsOf]at hr
  ·rw[hr]
   simp only[Option.some.injEq,ee,List.map_map]
   exact List.map_congr_left λ_ _=>rfl
  ·exact hr
 obtain⟨xs,dj,mD,_,_,_⟩:=uK hI ha hb bn (P:=P) (tx:=s) (.inl ⟨e,hs⟩)
 have VN:xs=l.map λb=>Value.int .u8 b.toNat:=by
  have F1:(ee l).flatten=l.map λb=>AV.int .u8 b.toNat:=Dm l
  rw[F1]at dj
  apply List.ext_getElem?
  intro i
  rw[List.getElem?_map]
  cases hi:l[i]? with
  |none=>
   have:xs.length<=i:=by rw[<-dj.1];simpa using hi
   simpa using this
  |some b=>
   have h1:(l.map λb=>AV.int .u8 b.toNat)[i]?=some (.int .u8 b.toNat):=by rw[List.getElem?_map,hi];rfl
   have h2:i<xs.length:=by rw[<-dj.1];exact(List.getElem?_eq_some_iff.1 h1).1
   have h3:=dj.2 i _ _ h1 (List.getElem?_eq_getElem h2)
   rw[List.getElem?_eq_getElem h2,h3.eZ]
   rfl
 subst VN
 have hlen:(ee l).length=l.length:=by simp[ee]
 rw[hlen]at mD
 have dM:(∃n c,ρ x=.slice none n c/\l=[])\/∃ad c,ρ x=.slice (some ad) l.length c:=by
  have h1:=mD.len w
  have h2:=mD.cells
  generalize ρ x=v at *
  cases a with
  |U=>cases ha;exact .inl ⟨_,_,rfl,by simp[rowsOf,ee]at hr;exact hr⟩
  |emp=>cases ha;exact .inr ⟨_,_,by simp[rowsOf,ee]at hr;subst hr;rfl⟩
  |cU s' r'=>cases ha;simp[rowsOf]at hr;subst hr;rw[hlen];exact .inr ⟨_,_,rfl⟩
  |own s' r'=>cases ha;simp[rowsOf]at hr;subst hr;rw[hlen];exact .inr ⟨_,_,rfl⟩
  |mu id bU=>
   cases ha with
   |mu _ _ _ loc hp F2 hv he2=>
    obtain⟨p,n,c,rfl⟩:=hp
    simp[Builtin.lenOf]at h1
    subst h1
    cases p with
    |some p=>exact .inr ⟨_,_,rfl⟩
    |none=>
     simp[Builtin.firstCells]at h2
     exact .inl ⟨_,_,rfl,h2⟩
  |_=>simp[rowsOf]at hr
 refine⟨.string ⟨l.toArray⟩,?_,.str _ _ (by simp)⟩
 rcases dM with⟨n,c,h1,rfl⟩|⟨ad,c,h1⟩
 ·simp[execOp,ho,convert,run_underlying hs,run_underlying hd,run_underlying he,h1,Conv.bytesToString]
  rfl
 ·have h2:=mD.cells
  rw[h1]at h2
  simp only[Builtin.firstCells,Nat.mul_one]at h2
  simp only[execOp,ho,convert,h1]
  simp[run_underlying hs,run_underlying hd,run_underlying he,Conv.bytesToString,h2,foldl_push]
end Ax
namespace Ax
open Go
variable {P:Program}{w w':World}{G G':aM}{β fQ:List k8}{ρ:Operand->Value}{o:Oper}
theorem L7 {α:Type}(r:List α)(k:Nat)(v:α)(h:k<r.length):af r k [v]=r.set k v:=by
 rw[jd _ _ _ (by simp;omega)]
 rw[List.set_eq_take_append_cons_drop,if_pos h]
 simp
theorem Gx (b:Nat):∀(r:List AV)(xs:List Value)(k:Nat)(v v':AV)(x:Value),r[k]?=some v->xs[k]?=some x->bR b (r.set k v') xs+eP b v x=bR b r xs+eP b v' x
 |[],_,_,_,_,_,h,_=>by simp at h
 |_::_,[],_,_,_,_,_,h=>by simp at h
 |r::rs,x::xs,0,v,v',x',h,k=>by simp at h k;subst h;subst k;simp only[List.set_cons_zero,bR];omega
 |r::rs,x::xs,i+1,v,v',x',h,k=>by
  have:=Gx b rs xs i v v' x' (by simpa using h) (by simpa using k)
  simp only[List.set_cons_succ,bR];omega
theorem Gy (G:aM)(ls:List Loc):qa w G w ⟨G.ls++ls,G.kL⟩ where
 NR:=λ_ _ h=>⟨rfl,h⟩
 ids:=λid loc hl=>⟨loc,by
  rw[List.getElem?_append_left (List.getElem?_eq_some_iff.1 hl).1];exact hl,Nat.le_refl _,λ_=>rfl⟩
theorem Tg {st:an}{loc:Loc}{ob:fB}(hI:Inv w G st)(h:nT w ⟨G.ls++[loc],G.kL⟩ ob loc):Inv w ⟨G.ls++[loc],G.kL⟩ (st++[ob]) where
 len:=by simp[hI.len]
 k9:=hI.k9
 obj:=λid F0 l h1 h2=>by
  simp only at h2
  by_cases IJ:id<st.length
  ·rw[List.getElem?_append_left IJ]at h1
   rw[List.getElem?_append_left (by rw[hI.len];exact IJ)]at h2
   exact(hI.obj id F0 l h1 h2).iB (Gy G _) λb _=>⟨rfl,rfl⟩
  ·rw[List.getElem?_append_right (by omega)]at h1
   rw[List.getElem?_append_right (by rw[hI.len];omega),hI.len]at h2
   by_cases he:id-st.length=0
   ·rw[he]at h1 h2
    simp at h1 h2
    subst h1;subst h2;exact h
   ·obtain⟨n,hn⟩:∃n,id-st.length=n+1:=⟨id-st.length-1,by omega⟩
    rw[hn]at h1;simp at h1
def rM (w:World)(a:Addr)(sz:Nat)(rows:List (List AV)):List (List Value):=
 rows.mapIdx λi r=>r.mapIdx λj _=>(w.cell? ⟨a.block,a.off+(i*sz+j),none⟩).getD Go.undef
theorem Th {st:an}{id ve i k k2 sz iP:Nat}{rows dJ:List (List AV)}{r:List AV}{u:Value}(hI:Inv w G st)(hp:aN w G (.ptr id ve i k) u)
  (fm:st[id]?=some (.rows ve sz rows)) (cR:rows[i]?=some r) (hv:r[k2]?=some (.raw iP dJ)) :
  ∃G',F3 w G st G' ((st++[fB.rows 0 iP dJ]).set id (.rows ve sz (rows.set i (af r k2 [.mu st.length 0])))):=by
 obtain⟨loc,b,o,c,e,xs,hl,yU,yV,gi,Gq,qJ,eS,fj,eH,hle,hlen,gx,I6,kN,dh⟩:=wY hI hp fm cR
 have VC:k2<r.length:=(List.getElem?_eq_some_iff.1 hv).1
 obtain⟨x,hx⟩:∃x,xs[k2]?=some x:=⟨_,List.getElem?_eq_getElem (by rw[<-kN.1];exact VC)⟩
 have dj:=kN.2 _ _ _ hv hx
 cases dj with
 |raw _ _ a cap ot VO bn iY nA uD hc hr ht hb=>
 obtain⟨cc,ce,F4,NA⟩:=hb
 have key:∀(i:Nat) r (j:Nat) c,dJ[i]?=some r->r[j]?=some c->∃v,(rM w a iP dJ)[i]?.bind (·[j]?)=some v/\w.cell? ⟨a.block,a.off+(i*iP+j),none⟩=some v:=by
  intro i r j c h1 h2
  obtain⟨v,hv⟩:=hc i r j c h1 h2
  exact⟨v,by simp[rM,h1,h2,hv],hv⟩
 have SW:∀(i:Nat) xs (j:Nat) x,(rM w a iP dJ)[i]?=some xs->xs[j]?=some x->w.cell? ⟨a.block,a.off+(i*iP+j),none⟩=some x:=by
  intro i xs j x h1 h2
  simp only[rM,List.getElem?_mapIdx,Option.map_eq_some_iff]at h1
  obtain⟨r,h3,rfl⟩:=h1
  simp only[List.getElem?_mapIdx,Option.map_eq_some_iff]at h2
  obtain⟨c,h4,rfl⟩:=h2
  obtain⟨v,hv⟩:=hc i r j c h3 h4
  rw[hv];rfl
 have abC:(some a:Option Addr)=some ⟨a.block,a.off,none⟩:=by rw[<-ot]
 let loc':Loc:=⟨some a,cap,dJ.length,iP,0,false,rM w a iP dJ⟩
 let G':aM:=⟨G.ls++[loc'],G.kL⟩
 have Ti:qa w G w G':=Gy G _
 have hO:nT w G' (.rows 0 iP dJ) loc':=by
  refine⟨rfl,rfl,bn,uD,rfl,rfl,by simp[loc',rM],λi r xs h1 h2=>⟨?_,λj c v h3 h4=>?_⟩,?_⟩
  ·simp only[loc',rM,List.getElem?_mapIdx,h1,Option.map_some,Option.some.injEq]at h2
   subst h2;simp
  ·have h5:=SW i xs j v h2 h4
   exact(hr i r j c v h1 h3 h5).ym Ti ((cm r).1 (iY r (cG h1)) c (cG h3))
  ·rcases Nat.eq_zero_or_pos cap with h0|h0
   ·refine .inl ⟨h0,?_,rfl⟩
    cases dJ with
    |nil=>rfl
    |cons _ _=>simp at VO;omega
   ·exact .inr ⟨a.block,a.off,cc,ce,abC,h0,F4,NA,VO,ht,SW⟩
 have hI1:Inv w G' (st++[fB.rows 0 iP dJ]):=Tg hI hO
 have IJ:id<st.length:=(List.getElem?_eq_some_iff.1 fm).1
 have zJ:(st++[fB.rows 0 iP dJ])[id]?=some (.rows ve sz rows):=by rw[List.getElem?_append_left IJ];exact fm
 have VP:G'.ls[id]?=some loc:=by
  show (G.ls++[loc'])[id]?=_
  rw[List.getElem?_append_left (by rw[hI.len];exact IJ)];exact hl
 have hmu:aN w G' (.mu st.length 0) (.slice (some a) dJ.length cap):=by
  refine .mu _ _ _ loc' ⟨_,_,_,rfl⟩ ?_ (Nat.le_refl _) λ_=>rfl
  show (G.ls++[loc'])[st.length]?=_
  rw[List.getElem?_append_right (by rw[hI.len];exact Nat.le_refl _),hI.len]
  simp
 have Jd:af r k2 [AV.mu st.length 0]=r.set k2 (.mu st.length 0):=L7 r k2 _ VC
 have Oo:b8 w G' r xs:=⟨kN.1,λj c v h1 h2=>(kN.2 j c v h1 h2).iB Ti λ_ _=>⟨rfl,rfl⟩⟩
 have ov:nT w G' (.rows ve sz (rows.set i (af r k2 [.mu st.length 0]))) loc:=by
  rw[Jd]
  refine⟨yU,yV,b9.2 λr' vu=>?_,λr' vu=>?_,by simp[gi.len],gi.size,by simp[gi.qv],λi' r' IL h1 h2=>?_,.inr ⟨b,o,c,e,qJ,eS,eH,hle,by simpa using hlen,gx,dh⟩⟩
  ·rcases List.mem_or_eq_of_mem_set vu with h|h
   ·exact b9.1 gi.fit r' h
   ·rw[h,List.length_set];exact b9.1 gi.fit r (cG cR)
  ·rcases List.mem_or_eq_of_mem_set vu with h|h
   ·exact gi.z6 r' h
   ·rw[h,<-Jd];exact je (gi.z6 r (cG cR)) (by simp[AV.aK,AV.cw]) (by simp;omega)
  ·rw[List.getElem?_set]at h1
   by_cases I8:i=i'
   ·subst I8
    rw[if_pos rfl]at h1
    split at h1
    ·cases h1
     rw[I6]at h2;cases h2
     refine⟨by rw[List.length_set];exact kN.1,λj c v h3 h4=>?_⟩
     rw[List.getElem?_set]at h3
     by_cases Tj:k2=j
     ·subst Tj
      rw[if_pos rfl,if_pos VC]at h3
      cases h3
      rw[hx]at h4;cases h4
      exact hmu
     ·rw[if_neg Tj]at h3
      exact Oo.2 j c v h3 h4
    ·cases h1
   ·rw[if_neg I8]at h1
    have h3:=gi.qP i' r' IL h1 h2
    exact⟨h3.1,λj c v h4 h5=>(h3.2 j c v h4 h5).iB Ti λ_ _=>⟨rfl,rfl⟩⟩
 refine⟨G',Ti,z9 hI1 (qa.refl w G') (ga _ _ _ VP).symm (λ_ _ _ _ _ _ _ _=>⟨rfl,rfl⟩) ov hI1.k9,λb'=>?_,λ_ _=>rfl⟩
 have h1:=tG b' G'.ls (st++[fB.rows 0 iP dJ]) id loc _ loc (.rows ve sz (rows.set i (af r k2 [.mu st.length 0]))) VP zJ
 rw[ga _ _ _ VP]at h1
 have h4:=qQ b' rows loc.vals i r xs (af r k2 [.mu st.length 0]) xs cR I6
 rw[ga _ _ _ I6]at h4
 have h5:=Gx b' r xs k2 _ (.mu st.length 0) _ hv hx
 rw[<-Jd]at h5
 have h6:bY b' G'.ls (st++[fB.rows 0 iP dJ])=bY b' G.ls st+bY b' [loc'] [fB.rows 0 iP dJ]:=qb b' _ _ _ _ hI.len
 have h7:bY b' [loc'] [fB.rows 0 iP dJ]<=eP b' (.raw iP dJ) (.slice (some a) dJ.length cap):=by
  simp only[bY,gz,eP,yX b' dJ _ iY,loc',Loc.iZ,Nat.add_zero]
  by_cases yh:cap=0
  ·simp[yh]
  ·simp[yh]
 have h8:eP b' (.mu st.length 0) (.slice (some a) dJ.length cap)=0:=by simp[eP]
 simp only[gz]at h1
 omega
end Ax
namespace Ax
open Go
variable {P:Program}{w w':World}{G G':aM}{β fQ:List k8}{ρ:Operand->Value}{o:Oper}
def iH (P:Program)(ρ:Operand->Value)(o:Oper)(w:World)(G:aM)(β:List k8)(st:an)(bx:aX)(cO:Nat->Nat)(nb:Option Nat)(r:dX)(bP:an)(eR:aX):Prop:=
 ∃n v w' G' fQ,(execOp ρ o).run P w=.ok n w'/\(n=.value v\/n=.skip/\v=undef)/\iG w G β st bx cO w' G' fQ bP eR r v/\ey nb β fQ
theorem iH.quiet {st:an}{bx:aX}{cO:Nat->Nat}{nb:Option Nat}{r:dX}(hI:Inv w G st)(hB:jq w G β bx){u:Value}(h:(execOp ρ o).run P w=.ok (.value u) w)(hr:jF w G β r u)(hc:∀b,cj b r u<=cO b):iH P ρ o w G β st bx cO nb r st bx:=
 ⟨_,u,w,G,β,h,.inl rfl,iG.quiet hI hB hr hc,ey.refl _ _⟩
theorem iH.bX {st:an}{bx:aX}{cO:Nat->Nat}{nb:Option Nat}{a:AV}(hI:Inv w G st)(hB:jq w G β bx){u:Value}(h:(execOp ρ o).run P w=.ok (.value u) w)(hr:aN w G a u)(hn:a.bX=true):iH P ρ o w G β st bx cO nb (.val a) st bx:=
 iH.quiet hI hB h hr λb=>by simp only[cj,eu b a u hn];omega
theorem jT.L8 {vals:List dX}{xs:List Value}{vs:List AV}(h:jT w G β vals xs)(hv:iz vals=some vs):b8 w G vs xs/\∀b,kM b vals xs=bR b vs xs:=by
 obtain⟨e1,e2,e3⟩:=h.vals hv
 exact⟨⟨e2,e3⟩,λb=>by rw[e1,AL]⟩
theorem w8 {rows:List (List AV)}(h:rows.all AV.aK=true):∀r∈rows,AV.aK r=true:=by simpa using h
theorem Gz {rows:List (List AV)}(h:rows.all AV.ai=true):∀r∈rows,AV.ai r=true:=by simpa using h
theorem w9 {sz:Nat}{p:AV->Prop}:∀(qs:List Nat)(vs:List AV)(rows dJ:List (List AV)),(∀r∈rows,∀c∈r,p c)->(∀v∈vs,∀c∈v.cells,p c)->fG sz rows qs vs=some dJ->∀r∈dJ,∀c∈r,p c
 |[],[],rows,dJ,hr,_,h=>by simp[fG]at h;subst h;exact hr
 |[],_::_,_,_,_,_,h=>by simp[fG]at h
 |_::_,[],_,_,_,_,h=>by simp[fG]at h
 |i::qs,v::vs,rows,dJ,hr,hv,h=>by
  simp only[fG]at h
  split at h
  ·refine w9 qs vs _ dJ (λr hm=>?_) (λu hu=>hv u (by simp[hu])) h
   rcases List.mem_or_eq_of_mem_set hm with h1|h1
   ·exact hr r h1
   ·rw[h1];exact hv v (by simp)
  ·cases h
theorem GA {v:AV}(h:v.bX=true):∀c∈v.cells,c.bX=true:=by
 cases v<;>simp_all [AV.cells,AV.bX]
 exact(cm _).1 h
theorem GB (vs:List AV):∀v∈AV.cz vs,v.bX=true:=(cm _).1 (fJ vs)
theorem Ba {x:Option Operand}{d a:Int}{vals rest:List dX}{xs:List Value}(h:pZ x.isSome d vals=some (a,rest))(hR:jT w G β vals (x.toList.map ρ++xs)):wj ρ x d a/\jT w G β rest xs:=by
 unfold pZ at h
 cases x with
 |none=>simp at h;obtain⟨rfl,rfl⟩:=h;exact⟨.inl ⟨rfl,rfl⟩,by simpa using hR⟩
 |some y=>
  simp only[Option.isSome_some,if_true]at h
  split at h
  ·rename_i n r
   cases h
   simp only[Option.toList_some,List.map_cons,List.map_nil,List.cons_append,List.nil_append,jT,jF]at hR
   exact⟨.inr ⟨y,rfl,hR.1.eZ⟩,hR.2⟩
  ·cases h
theorem uL {c:Call}{t u:TypeId}(h2:c.argTypes.size=2)(h0:c.argTypes[0]?=some t)(h1:c.argTypes[1]?=some u):c.argTypes = #[t,u]:=by
 apply Array.ext_getElem?
 intro i
 match i with
 |0=>simpa using h0
 |1=>simpa using h1
 |i+2=>simp;omega
section
variable {S:Nat->Option aC}{so:aZ}{vals:List dX}{wl aa:Nat}{st bP:an}{bx eR:aX}{cO:Nat->Nat}{r:dX}
theorem Tl {t:TypeId}{x:Operand}{lo hi mx:Option Operand}{tr:Bool}{sz:Nat}(ho:o.op=.slice t x lo hi mx)(WW:mx.isSome=true->hi.isSome=true)
  (hu:match P.underlying t with|some (.slice e)=>(!tr&&ck P e sz)=true|some .string=>(tr && !mx.isSome)=true|_=>False) (hI:Inv w G st) (hB:jq w G β bx)
  (hR:jT w G β vals ((uH x lo hi mx).map ρ)) (hcO:∀b,kM b vals ((uH x lo hi mx).map ρ)<=cO b) (ha:aL wl aa (.slice tr lo.isSome hi.isSome mx.isSome sz) vals st bx=some (r,bP,eR)) :
  iH P ρ o w G β st bx cO none r bP eR:=by
 simp only[uH,List.map_cons,List.map_append]at hR
 unfold aL at ha
 simp only at ha
 split at ha
 ·rename_i a l
  obtain⟨So,hRl⟩:=hR
  simp only[jF]at So
  split at ha
  ·cases ha
  ·rename_i n hn
   split at ha
   ·cases ha
   ·rename_i lov l1 F5
    obtain⟨Ez,hR1⟩:=Ba F5 (xs:=hi.toList.map ρ++mx.toList.map ρ) (by simpa [List.append_assoc] using hRl)
    split at ha
    ·cases ha
    ·rename_i hiv l2 hhi
     obtain⟨EA,hR2⟩:=Ba hhi hR1
     split at ha
     ·rename_i hmx
      have af5:mx=none:=by cases mx<;>simp_all
      subst af5
      split at ha
      ·rename_i v hv
       cases ha
       unfold jx at hv
       split at hv
       ·rename_i s
        split at hv
        ·rename_i hc
         simp only[Bool.and_eq_true,decide_eq_true_eq]at hc
         obtain⟨⟨⟨_,h0⟩,h1⟩,h2⟩:=hc
         cases hv
         simp only[if_true,mJ,Option.some.injEq]at hn
         subst hn
         have hus:P.underlying t=some .string:=by
          split at hu
          ·simp at hu
          ·assumption
          ·exact hu.elim
         obtain⟨u,e1,e2⟩:=IZ ho hus So Ez EA h0 h1 h2
         exact iH.bX hI hB e1 e2 rfl
        ·cases hv
       ·simp only[Bool.and_true]at hv
        split at hv
        ·rename_i hc
         simp only[Bool.and_eq_true,decide_eq_true_eq]at hc
         obtain⟨rfl,rfl⟩:=hc
         cases hv
         simp only[mJ,rowsOf]at hn
         cases hn
         split at hu
         ·rename_i e EB
          simp only[Bool.and_eq_true]at hu
          exact iH.bX hI hB (AS ho EB hu.2 So Ez EA (.inl rfl)) .U rfl
         ·simp at hu
         ·exact hu.elim
        ·cases hv
       ·simp only[Bool.and_true]at hv
        split at hv
        ·rename_i hc
         simp only[Bool.and_eq_true,decide_eq_true_eq]at hc
         obtain⟨rfl,rfl⟩:=hc
         cases hv
         simp only[mJ,rowsOf]at hn
         cases hn
         split at hu
         ·rename_i e EB
          simp only[Bool.and_eq_true]at hu
          obtain⟨u,e1,e2⟩:=yW ho EB hu.2 So Ez EA (.inl rfl)
          exact iH.bX hI hB e1 e2 rfl
         ·simp at hu
         ·exact hu.elim
        ·cases hv
       ·rename_i s rows
        simp only at hv
        split at hv
        ·rename_i hc
         simp only[Bool.and_eq_true,decide_eq_true_eq]at hc
         obtain⟨⟨⟨rfl,h0⟩,h1⟩,h2⟩:=hc
         cases hv
         simp only[mJ,rowsOf]at hn
         cases hn
         split at hu
         ·rename_i e EB
          simp only[Bool.and_eq_true]at hu
          obtain⟨u,e1,e2⟩:=AR ho EB hu.2 So Ez EA h0 h1 h2
          exact iH.bX hI hB e1 e2 rfl
         ·simp at hu
         ·exact hu.elim
        ·cases hv
       ·rename_i s rows
        simp only at hv
        split at hv
        ·rename_i hc
         simp only[Bool.and_eq_true,decide_eq_true_eq]at hc
         obtain⟨⟨⟨rfl,h0⟩,h1⟩,h2⟩:=hc
         cases hv
         simp only[mJ,rowsOf]at hn
         cases hn
         split at hu
         ·rename_i e EB
          simp only[Bool.and_eq_true]at hu
          obtain⟨u,e1,e2⟩:=AR ho EB hu.2 So.view Ez EA h0 h1 h2
          exact iH.bX hI hB e1 e2 rfl
         ·simp at hu
         ·exact hu.elim
        ·cases hv
       ·cases hv
      ·cases ha
     ·rename_i m hmx
      obtain⟨z,rfl⟩:∃z,mx=some z:=by cases mx<;>simp_all
      simp only[Option.toList_some,List.map_cons,List.map_nil,jT,jF]at hR2
      have hz:=hR2.1.eZ
      split at ha
      ·rename_i v hv
       cases ha
       unfold jx at hv
       split at hv
       ·simp at hv
       ·simp only at hv
        split at hv
        ·rename_i hc
         simp only[Bool.and_eq_true,decide_eq_true_eq,beq_iff_eq]at hc
         obtain⟨⟨rfl,rfl⟩,rfl⟩:=hc
         cases hv
         simp only[mJ,rowsOf]at hn
         cases hn
         split at hu
         ·rename_i e EB
          simp only[Bool.and_eq_true]at hu
          exact iH.bX hI hB (AS ho EB hu.2 So Ez EA (.inr ⟨z,rfl,WW rfl,hz⟩)) .U rfl
         ·simp at hu
         ·exact hu.elim
        ·cases hv
       ·simp only at hv
        split at hv
        ·rename_i hc
         simp only[Bool.and_eq_true,decide_eq_true_eq,beq_iff_eq]at hc
         obtain⟨⟨rfl,rfl⟩,rfl⟩:=hc
         cases hv
         simp only[mJ,rowsOf]at hn
         cases hn
         split at hu
         ·rename_i e EB
          simp only[Bool.and_eq_true]at hu
          obtain⟨u,e1,e2⟩:=yW ho EB hu.2 So Ez EA (.inr ⟨z,rfl,WW rfl,hz⟩)
          exact iH.bX hI hB e1 e2 rfl
         ·simp at hu
         ·exact hu.elim
        ·cases hv
       ·rename_i s rows
        simp only at hv
        split at hv
        ·rename_i hc
         simp only[Bool.and_eq_true,decide_eq_true_eq]at hc
         obtain⟨⟨rfl,rfl⟩,rfl⟩:=hc
         cases hv
         simp only[mJ,rowsOf]at hn
         cases hn
         split at hu
         ·rename_i e EB
          simp only[Bool.and_eq_true]at hu
          obtain⟨u,e1,e2⟩:=AT ho EB hu.2 So Ez EA (WW rfl) hz
          exact iH.bX hI hB e1 e2 rfl
         ·simp at hu
         ·exact hu.elim
        ·cases hv
       ·rename_i s rows
        simp only at hv
        split at hv
        ·rename_i hc
         simp only[Bool.and_eq_true,decide_eq_true_eq]at hc
         obtain⟨⟨rfl,rfl⟩,rfl⟩:=hc
         cases hv
         simp only[mJ,rowsOf]at hn
         cases hn
         split at hu
         ·rename_i e EB
          simp only[Bool.and_eq_true]at hu
          obtain⟨u,e1,e2⟩:=AT ho EB hu.2 So.view Ez EA (WW rfl) hz
          exact iH.bX hI hB e1 e2 rfl
         ·simp at hu
         ·exact hu.elim
        ·cases hv
       ·cases hv
      ·cases ha
     ·cases ha
 ·cases ha
end
end Ax
