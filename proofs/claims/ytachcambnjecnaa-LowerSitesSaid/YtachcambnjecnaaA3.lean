/- The library of this proof, part 3: an abstract interpreter of the loaded code, and its soundness. -/
import Derived.Test.YtachcambnjecnaaA2
import Derived.IntWalk

namespace Ax
open Go
variable {P:Program}{w w':World}{G G':aM}{β gf:List lE}{ρ:Operand->Value}{o:Oper}
theorem qz{st:aj}{bx:aU}{cO:Nat->Nat}(hI:iH w G st)(hB:jD w G β bx)(hX:∀b,cO b+fM b β bx+b6 b G.ls st<=1){id:Nat}{loc loc':j9}{ob GG:fL}{e:eG}{v:Value}
  (hl:G.ls[id]?=some loc)(fh:st[id]?=some ob)(hs:qq w G w' G')(JH:G'.ls=G.ls.set id loc')(ry:og w' G' GG loc')(ht:∀b p,G'.kR b=some p->b<w'.heap.size)
  (G8:∀b,b<w.heap.size->loc.jl≠some b->dL w G w' G' b) (O6:w.heap.size<=w'.heap.size) (Jn:w'.os=w.os) (vL:w'.output=w.output) (dy:jQ w' G' β e v)
  (hc:∀b,cv b e v+gX b loc' GG<=cO b+gX b loc ob+(if w.heap.size<=b then 1 else 0)):iU w G β st bx cO w' G' β (st.set id GG) bx e v:=by
 have ff:∀b,loc.jl=some b->gX b loc ob ≥ 1:=by
  intro b hb
  cases ob<;>simp[gX,hb]
 refine⟨hs,AH hI hs JH (λi l XJ b hi h1 h2 h3=>?_) ry ht,lP hB hs λb hb=>?_,dy,λb=>?_,λb hb bn=>?_,O6,Jn,vL⟩
 ·refine G8 b ((hI.bC i XJ l h2 h1).held h3) λhb=>?_
  have h4:=ff b hb
  have h5:=GZ b G.ls st i id l XJ loc ob hi h1 h2 hl fh
  have:=hX b
  omega
 ·refine G8 b (hB.held hb) λlN=>?_
  have h4:=ff b lN
  have h5:=mm b G.ls st id loc ob hl fh
  have:=hX b
  omega
 ·have h1:=tP b G.ls st id loc ob loc' GG hl fh
  have h2:=hc b
  rw[JH]
  omega
 ·refine G8 b bn λlN=>?_
  have h4:=ff b lN
  have h5:=mm b G.ls st id loc ob hl fh
  omega
theorem tN.flat{sz:Nat}{rows:List (List AV)}{loc:j9}(h:tN w G sz rows loc):cj w G rows.flatten loc.vals.flatten/\(∀b,bV b rows.flatten loc.vals.flatten=fz b rows loc.vals)/\(∀r∈loc.vals,r.length=sz)/\
  ∀b off,(∀(i:Nat) xs (j:Nat) x,loc.vals[i]?=some xs->xs[j]?=some x->w.cell? ⟨b,off+(i*sz+j),none⟩=some x)->∀(k:Nat) x,loc.vals.flatten[k]?=some x->w.cell? ⟨b,off+k,none⟩=some x:=by
 have Lm:∀r∈loc.vals,r.length=sz:=λr hr=>by
  obtain⟨i,hi,rfl⟩:=List.mem_iff_getElem.1 hr
  have oT:i<rows.length:=by rw[<-h.qO];exact hi
  rw[<-(h.rm i rows[i] loc.vals[i] (List.getElem?_eq_getElem oT) (List.getElem?_eq_getElem hi)).1]
  exact cn.1 h.Dp _ (List.getElem_mem oT)
 refine⟨rV rows loc.vals h.qO.symm h.rm,λb=>xh b rows loc.vals h.qO.symm λi r xs h1 h2=>(h.rm i r xs h1 h2).1,Lm,λb off hc k x hx=>?_⟩
 obtain⟨i,j,r,rfl,e2,e3⟩:=nO loc.vals k x Lm hx
 exact hc i r j x e2 e3
theorem O7{st:aj}{bx:aU}{cO:Nat->Nat}(hI:iH w G st)(hB:jD w G β bx){sz:Nat}{a:Option Addr}(tD:a.isSome=true) :
  ∃G',iU w G β st bx cO w G' β (st++[.rows 0 sz []]) bx (.val (.mu st.length 0)) (.slice a 0 0):=by
 have Dw:∀(id:Nat) loc,G.ls[id]?=some loc->∃loc',(G.ls++[⟨a,0,0,sz,0,false,[]⟩])[id]?=some loc'/\loc.bX<=loc'.bX/\(loc.bX=loc'.bX\/loc.mp=true->loc'.hd=loc.hd):=λid loc h=>
  ⟨loc,by rw[List.getElem?_append_left (List.getElem?_eq_some_iff.1 h).1];exact h,Nat.le_refl _,λ_=>rfl⟩
 have hs:qq w G w ⟨G.ls++[⟨a,0,0,sz,0,false,[]⟩],G.kR⟩:=⟨λ_ _ h=>⟨rfl,h⟩,Dw⟩
 refine⟨⟨G.ls++[⟨a,0,0,sz,0,false,[]⟩],G.kR⟩,hs,⟨by simp[hI.len],λid ob loc h1 h2=>?_,hI.lF⟩,lP hB hs λb _=>⟨rfl,rfl⟩,.mu _ _ _ ⟨a,0,0,sz,0,false,[]⟩ ⟨_,_,_,rfl⟩ ?_ (Nat.le_refl _) λ_=>rfl,λb=>?_,λb _ _=>⟨rfl,rfl⟩,Nat.le_refl _,rfl,rfl⟩
 ·by_cases Jm:id<st.length
  ·rw[List.getElem?_append_left Jm]at h1
   simp only at h2
   rw[List.getElem?_append_left (by rw[hI.len];exact Jm)]at h2
   exact(hI.bC id ob loc h1 h2).iR hs λb _=>⟨rfl,rfl⟩
  ·rw[List.getElem?_append_right (by omega)]at h1
   simp only at h2
   rw[List.getElem?_append_right (by rw[hI.len];omega),hI.len]at h2
   have h0:id-st.length=0:=by have:=(List.getElem?_eq_some_iff.1 h1).1;simp at this;omega
   rw[h0]at h1 h2
   simp at h1 h2
   subst h1;subst h2
   exact⟨rfl,rfl,by simp[bU],by simp,rfl,rfl,rfl,λi r xs h=>by simp at h,.inl ⟨rfl,rfl,tD⟩⟩
 ·simp only
  rw[List.getElem?_append_right (by rw[hI.len];exact Nat.le_refl _),hI.len];simp
 ·simp only[cv,fj]
  rw[qt b _ _ _ _ hI.len]
  have h0:b6 b [⟨a,0,0,sz,0,false,[]⟩] [.rows 0 sz []]=0:=by simp[b6,gX,j9.jl,fz]
  rw[h0];omega
structure XK (P:Program)(t tx ty e:TypeId)(sz bytes:Nat)(x:Value)(n:Nat)(news:List Value)(w:World):Prop where
 newsLen:news.length=n*sz
 AI:n=0->∀base fZ jM,fZ<=jM->(Builtin.append_ #[t,tx] ty #[.slice base fZ jM,x]).run P w=.ok (.slice base fZ jM) w
 dQ:∀(b off fZ jM:Nat) (ey:Array Value) (e0:TypeId),w.heap[b]?=some (.cells ey e0 (0,0))->fZ+n<=jM->off+jM*sz<=ey.size->
  (Builtin.append_ #[t,tx] ty #[.slice (some ⟨b,off,none⟩) fZ jM,x]).run P w=.ok (.slice (some ⟨b,off,none⟩) (fZ+n) jM) (w.setRow b (af ey.toList (off+fZ*sz) news).toArray)
 new:∀(base:Option Addr) (fZ jM:Nat) (olds:List Value),(Builtin.firstCells sz fZ (.slice base fZ jM)).run P w.drew=.ok olds.toArray w.drew->olds.length=fZ*sz->jM<fZ+n->(fZ+n)*bytes<=140737488355328->
  ∃cap c,(Builtin.append_ #[t,tx] ty #[.slice base fZ jM,x]).run P w=.ok (.slice (some ⟨w.heap.size,0,none⟩) (fZ+n) cap) (w.drew.alloc (.cells c e))/\fZ+n<=cap/\cap*sz<=c.size/\
   ∀(k:Nat) v,(olds++news)[k]?=some v->c[k]?=some v
theorem O8{t tx ty e:TypeId}{sz bytes:Nat}{i:TypeInfo}{z:Value}(h:JI P t tx e sz bytes i z){x:Value}{n:Nat}{news:List Value}(hs:Go.Src P sz tx x n news w):XK P t tx ty e sz bytes x n news w where
 newsLen:=hs.newsLen
 AI:=λh0 base fZ jM hle=>by
  subst h0
  have hn:news=[]:=List.eq_nil_of_length_eq_zero (by simpa using hs.newsLen)
  subst hn
  exact run_append_nothing w t tx ty e i h.ht h.hi base fZ jM hle x (by rw[h.eH];exact hs)
 dQ:=λb off fZ jM ey e0 hg h1 h2=>pL h b off fZ jM ey e0 hg x n news hs h1 h2
 new:=λbase fZ jM olds hold Oo hg hb=>pM h base fZ jM olds hold Oo x n news hs hg hb
theorem E9(z:Array Value)(n sz:Nat)(hz:z.size=sz):(Builtin.zeroCells z n).toList=((Array.range (n*sz)).map (z[· % z.size]!)).toList:=by
 subst hz;rfl
theorem JJ{t tx ty e:TypeId}{sz bytes:Nat}{i:TypeInfo}{z:Value}(ht:P.underlying t=some (.slice e))(hk:∃k,P.underlying tx=some (.int k))(hi:P.info? e=some i)(hz:i.zero=some z)(eH:i.size=sz)(TO:i.bytes=bytes)
  (OW:z.cells.size=sz)(pos:0<sz)(O3:0<bytes){n:Int}(h0:0<=n)(hr:n*bytes<=140737488355328)(w:World)(kW:∀u∈(Builtin.zeroCells z.cells n.toNat).toList,u.oneCell'=true) :
  XK P t tx ty e sz bytes (.int .i64 n) n.toNat (Builtin.zeroCells z.cells n.toNat).toList w:=by
 obtain⟨k,hk⟩:=hk
 subst eH;subst TO
 have hn:n<=140737488355328:=by
  have:n*1<=n*i.bytes:=Int.mul_le_mul_of_nonneg_left (by omega) (by omega)
  omega
 have hw:IntKind.i64.wrap n=n:=IntWalk.i64_in n ⟨by omega,by omega⟩
 have TU:¬n<0:=by omega
 have TW:¬(281474976710656<n*i.bytes):=by omega
 have hlen:(Builtin.zeroCells z.cells n.toNat).toList.length=n.toNat*i.size:=by rw[Array.length_toList,size_zeroCells,OW]
 refine⟨hlen,λe0 base fZ jM hle=>?_,λb off fZ jM ey e0 hg h1 h2=>?_,λbase fZ jM olds hold Oo hg hb=>?_⟩
 ·have Fa:n=0:=by omega
  subst Fa
  cases base<;>simp[Builtin.append_,run_underlying ht,run_underlying hk,Go.sizeOf,typeInfo,hi,asInt,asIntOf,hw,hle,storeCells]
 ·have hle:off+fZ*i.size+n.toNat*i.size<=ey.size:=by
   have:(fZ+n.toNat)*i.size<=jM*i.size:=Nat.mul_le_mul_right _ h1
   rw[Nat.add_mul]at this
   omega
  have fh:=gu (P:=P) b (off+fZ*i.size) e0 _ ey w hg (by rw[hlen];exact hle) kW
  by_cases XL:n.toNat*i.size=0
  ·have Fa:(Builtin.zeroCells z.cells n.toNat).toList=[]:=List.eq_nil_of_length_eq_zero (by rw[hlen,XL])
   rw[Fa]at fh ⊢
   simp[Builtin.append_,run_underlying ht,run_underlying hk,Go.sizeOf,typeInfo,hi,asInt,asIntOf,hw,TU,TW,XL,h1,Addr.add_lit,fh]
  ·simp[Builtin.append_,run_underlying ht,run_underlying hk,Go.sizeOf,typeInfo,zeroValue,hi,hz,asInt,asIntOf,hw,TU,TW,XL,h1,Addr.add_lit,fh]
 ·have hn:¬(fZ+n.toNat<=jM):=by omega
  have h63:¬(9223372036854775807<((fZ:Int)+(n.toNat:Int))):=by have:=Ln hb O3;omega
  have acg:¬(9223372036854775807<((fZ:Int)+max n 0)):=by omega
  have h48:¬(281474976710656<Builtin.nextslicecap (fZ+n.toNat) jM*i.bytes):=by have:=growslice_fits hg hb;omega
  refine⟨grownCap w (fZ+n.toNat) jM e,(olds++(Builtin.zeroCells z.cells n.toNat).toList).toArray++Builtin.zeroCells z.cells (grownCap w (fZ+n.toNat) jM e-(fZ+n.toNat)),?_,grownCap_ge _ _ _ _,?_,λk v hv=>?_⟩
  ·by_cases XL:n.toNat*i.size=0
   ·have Fa:(Builtin.zeroCells z.cells n.toNat).toList=[]:=List.eq_nil_of_length_eq_zero (by rw[hlen,XL])
    rw[Fa]
    simp[Builtin.append_,run_underlying ht,run_underlying hk,Go.sizeOf,typeInfo,zeroValue,hi,hz,asInt,asIntOf,hw,TU,TW,hn,acg,h48,XL,Question.forced,hold,newRow,grownCap]
   ·simp[Builtin.append_,run_underlying ht,run_underlying hk,Go.sizeOf,typeInfo,zeroValue,hi,hz,asInt,asIntOf,hw,TU,TW,hn,acg,h48,XL,Question.forced,hold,newRow,grownCap]
    congr 2
    apply Array.ext'
    simp[List.append_assoc]
  ·have h1:=grownCap_ge w (fZ+n.toNat) jM e
   rw[Array.size_append,size_zeroCells,OW]
   simp only[List.size_toArray,List.length_append,Oo,hlen]
   rw[<-Nat.add_mul,<-Nat.add_mul]
   exact Nat.mul_le_mul_right _ (by omega)
  ·have hk:=(List.getElem?_eq_some_iff.1 hv).1
   rw[Array.getElem?_append,if_pos (by simpa using hk)]
   simpa using hv
theorem O9{t tx ty e:TypeId}{sz bytes:Nat}{st:aj}{bx:aU}(hI:iH w G st)(hB:jD w G β bx){cO:Nat->Nat}(hX:∀b,cO b+fM b β bx+b6 b G.ls st<=1)
  {s:AV}{vs vx:Value}(hs:aO w G s vs){new:List (List AV)}{news:List Value}(dy:cj w G new.flatten news)(mP:XK P t tx ty e sz bytes vx new.length news w)(iA:∀r∈new,AV.aK r=true)(iP:∀r∈new,AV.dH r=true)
  {wl aa:Nat} {bS:aj} {fm:aU} {r:eG} (ha:yC wl aa sz bytes s new st bx=some (r,bS,fm)) :
  ∃v w' G',(Builtin.append_ #[t,tx] ty #[vs,vx]).run P w=.ok v w'/\iU w G β st bx cO w' G' β bS fm r v:=by
 unfold yC at ha
 ·split at ha
  ·rename_i cm
   have Fa:∀b xs,bV b new.flatten xs=0:=λb xs=>dn b _ _ ((cy _).2 λx hx=>by
    obtain⟨r,hr,hx⟩:=List.mem_flatten.1 hx
    exact(cy r).1 (iP r hr) x hx)
   have qQ:new=[]->news=[]:=λh0=>by
    subst h0
    have:=dy.1;simp at this;exact List.eq_nil_of_length_eq_zero this.symm
   have fresh:∀base,(Builtin.firstCells sz 0 (.slice base 0 0)).run P w.drew=.ok ([]:List Value).toArray w.drew->new.length*bytes<=dQ->(new=[]->base.isSome=true)->
     ∃v w' G',(Builtin.append_ #[t,tx] ty #[.slice base 0 0,vx]).run P w=.ok v w'/\iU w G β st bx cO w' G' β (st++[.rows 0 sz new]) bx (.val (.mu st.length 0)) v:=by
    intro base hf hr hbs
    by_cases ku:new=[]
    ·have:=qQ ku
     subst this;subst ku
     have:=mP.AI rfl base 0 0 (Nat.le_refl _)
     obtain⟨G',hA⟩:=O7 (w:=w) (G:=G) (β:=β) (cO:=cO) (sz:=sz) (a:=base) hI hB (hbs rfl)
     exact⟨_,_,_,this,hA⟩
    ·have hn:0<new.length:=List.length_pos_iff.2 ku
     obtain⟨cap,c,e1,e2,e3,e4⟩:=mP.new base 0 0 [] hf (by simp) (by omega) (by simpa [dQ] using hr)
     simp only[Nat.zero_add,List.nil_append]at e1 e2 e4
     obtain⟨G',hA,_⟩:=tS (w':=w.drew.alloc (.cells c e)) (cO:=cO) hI hB rfl rfl rfl cm iA dy (by omega) e3 e2 e4 (λb=>by rw[Fa];omega)
     exact⟨_,_,G',e1,hA⟩
   split at ha
   ·split at ha
    ·rename_i yI
     cases ha
     have h0:new=[]:=by simpa using yI
     have:=qQ h0
     subst this;subst h0
     cases hs
     have:=mP.AI rfl none 0 0 (Nat.le_refl _)
     exact⟨_,_,_,this,iU.lO hI hB (aO.U) λb=>by simp[cv,fj]⟩
    ·split at ha
     ·rename_i hr
      cases ha;cases hs
      exact fresh none (run_firstCells_none _ _ _ _ _) hr λh=>absurd h (by rename_i yI;simpa using yI)
     ·cases ha
   ·split at ha
    ·rename_i hr
     cases ha
     cases hs with
     |kV a=>exact fresh (some a) (by simp[Builtin.firstCells,loadCells,loadCellsFrom]) hr λ_=>rfl
    ·cases ha
   ·rename_i id bX
    split at ha
    ·rename_i v jf old fh
     split at ha
     ·rename_i hc
      simp only[Bool.and_eq_true,decide_eq_true_eq]at hc
      obtain⟨⟨⟨⟨rfl,rfl⟩,hr⟩,_⟩,_⟩:=hc
      cases ha
      obtain⟨loc,hl,zz,yw,gQ⟩:=hI.loc fh
      cases hs with
      |mu _ _ _ loc' hp oc Dm he=>
      rw[hl]at oc;cases oc
      have cJ:=he (by omega)
      subst cJ
      obtain⟨GH,TR,hfv,Fe⟩:=gQ.flat
      have Dw:∀l':j9,l'.bX=v+1->∀(i:Nat) l,G.ls[i]?=some l->∃TY,(G.at id l').ls[i]?=some TY/\l.bX<=TY.bX/\(l.bX=TY.bX\/l.mp=true->TY.hd=l.hd):=λl' hv=>
       Bz hl (by omega) λh=>by rcases h with h|h<;>simp_all<;>omega
      have S7:∀l':j9,(G.at id l').ls[id]?=some l':=λl'=>by
       simp only[aM.at];rw[List.getElem?_set,if_pos rfl,if_pos (List.getElem?_eq_some_iff.1 hl).1]
      by_cases ku:new=[]
      ·have:=qQ ku
       subst this;subst ku
       have hle:loc.len<=loc.cap:=by
        rcases gQ.oe with⟨h0,h1,_⟩|⟨b,off,c,e',tg,fo,eS,eH,hlen,gV,dw⟩
        ·rw[gQ.len,h1];simp
        ·rw[gQ.len];exact hlen
       have:=mP.AI rfl loc.a loc.len loc.cap hle
       have Am:qq w G w (G.at id { loc with bX:=v+1 }):=⟨λ_ _ h=>⟨rfl,h⟩,Dw _ rfl⟩
       refine⟨_,_,G.at id { loc with bX:=v+1 },this,qz hI hB hX hl fh Am rfl ?_ hI.lF (λb _ _=>⟨rfl,rfl⟩) (Nat.le_refl _) rfl rfl (.mu _ _ _ { loc with bX:=v+1 } ⟨_,_,_,rfl⟩ (S7 _) (Nat.le_refl _) λ_=>rfl) λb=>?_⟩
       ·have:=(og.iR (w':=w) (G':=G.at id { loc with bX:=v+1 }) (show og w G (.rows v jf old) loc from⟨zz,yw,gQ⟩) Am λb _=>⟨rfl,rfl⟩)
        obtain⟨_,_,h3⟩:=this
        rw[List.append_nil]
        exact⟨zz,rfl,h3.Dp,h3.AE,h3.len,h3.size,h3.qO,h3.rm,h3.oe⟩
       ·simp only[cv,fj,List.append_nil]
        show 0+gX b loc (.rows v jf old)<=cO b+gX b loc (.rows v jf old)+_
        omega
      ·have hn:0<new.length:=List.length_pos_iff.2 ku
       have ji:=tU gQ.Dp cm
       have qy:(old++new).flatten=old.flatten++new.flatten:=List.flatten_append
       have Oo:loc.vals.flatten.length=old.length*jf:=by rw[<-GH.1];exact eX old (cn.1 gQ.Dp)
       have Oq:news.length=new.length*jf:=mP.newsLen
       by_cases mR:old.length+new.length<=loc.cap
       ·rcases gQ.oe with⟨h0,h1,_⟩|⟨b,off,c,e',tg,fo,eS,eH,hlen,gV,dw⟩
        ·omega
        have hle:off+old.length*jf+news.length<=c.size:=by
         rw[Oq]
         have:(old.length+new.length)*jf<=loc.cap*jf:=Nat.mul_le_mul_right _ mR
         rw[Nat.add_mul]at this
         omega
        have e1:=mP.dQ b off old.length loc.cap c e' eS mR eH
        rw[tg,gQ.len]
        have ach:=Dw ⟨some ⟨b,off,none⟩,loc.cap,(old++new).length,jf,v+1,false,pH jf (old++new).length (loc.vals.flatten++news)⟩ rfl
        have hW:Wr w G (w.setRow b (af c.toList (off+old.length*jf) news).toArray) ⟨(G.at id ⟨some ⟨b,off,none⟩,loc.cap,(old++new).length,jf,v+1,false,pH jf (old++new).length (loc.vals.flatten++news)⟩).ls,λb'=>if b'=b then some 0 else G.kR b'⟩ b:=
         BA eS hle gV (Nat.zero_le _) (Nat.le_refl _) ach
        have ff:loc.jl=some b:=by unfold j9.jl;rw[if_neg (by omega),tg];rfl
        refine⟨_,_,⟨(G.at id ⟨some ⟨b,off,none⟩,loc.cap,(old++new).length,jf,v+1,false,pH jf (old++new).length (loc.vals.flatten++news)⟩).ls,λb'=>if b'=b then some 0 else G.kR b'⟩,e1,?_⟩
        refine qz hI hB hX hl fh hW.iR rfl ⟨rfl,rfl,mq (b:=b) (off:=off) (c:=(af c.toList (off+old.length*jf) news).toArray) (e:=e') (xs:=loc.vals.flatten++news) ji (nB gQ.AE iA) ?_ rfl rfl rfl rfl fo (setRow_heap w b c _ e' (0,0) eS) (by rw[List.size_toArray,dx];simpa using eH) (by simpa using mR) (by simp) λk x hk=>?_⟩
         (hW.lF hI) (λb' _ lN=>hW.iT λe=>lN (by rw[ff,e])) (by simp) rfl rfl (.mu _ _ _ _ ⟨_,_,_,rfl⟩ (S7 _) (Nat.le_refl _) λ_=>by simp) λb'=>?_
        ·rw[qy]
         refine(GH.mono hW.iR λb' lN=>hW.iT λe=>?_).append (dy.mono hW.iR λb' lN=>by rw[Fa]at lN;omega)
         subst e
         rw[TR]at lN
         have h1:=hX b'
         have h2:=mm b' G.ls st id loc _ hl fh
         simp only[gX,ff,if_true]at h2
         omega
        ·rw[qx eS hle]
         by_cases G9:k<loc.vals.flatten.length
         ·rw[List.getElem?_append_left G9]at hk
          rw[if_neg (by omega)]
          exact Fe b off dw k x hk
         ·rw[List.getElem?_append_right (by omega)]at hk
          have bn:=(List.getElem?_eq_some_iff.1 hk).1
          rw[if_pos (by omega),show off+k-(off+old.length*jf)=k-loc.vals.flatten.length by omega]
          exact hk
        ·have He:(⟨some ⟨b,off,none⟩,loc.cap,(old++new).length,jf,v+1,false,pH jf (old++new).length (loc.vals.flatten++news)⟩:j9).jl=loc.jl:=by
          rw[ff];unfold j9.jl;rw[if_neg (show ¬loc.cap=0 by omega)];rfl
         simp only[cv,fj,gX]
         rw[He,pI b' (old++new) _ (cn.1 ji) (by rw[qy,List.length_append,List.length_append,GH.1,dy.1]),qy,fy b' _ _ _ _ GH.1,Fa,TR]
         omega
       ·have hf:(Builtin.firstCells jf loc.len (.slice loc.a loc.len loc.cap)).run P w.drew=.ok loc.vals.flatten.toArray w.drew:=by
         rcases gQ.oe with⟨h0,h1,_⟩|⟨b,off,c,e',tg,fo,eS,eH,hlen,gV,dw⟩
         ·have:loc.vals=[]:=by
           have:=gQ.qO;rw[h1]at this;exact List.eq_nil_of_length_eq_zero (by simpa using this)
          rw[gQ.len,h1,this]
          cases loc.a<;>simp[Builtin.firstCells,loadCells,loadCellsFrom]
         ·rw[tg,gQ.len]
          exact run_firstCells_some w.drew jf old.length ⟨b,off,none⟩ old.length loc.cap _ Oo (λj v hj=>by rw[kq,DX];exact Fe b off dw j v hj)
        obtain⟨MQ,c,e1,e2,e3,e4⟩:=mP.new loc.a loc.len loc.cap loc.vals.flatten hf (by rw[Oo,gQ.len]) (by rw[gQ.len];omega) (by rw[gQ.len];exact hr)
        rw[gQ.len,<-List.length_append]at e2
        have hcp:0<MQ:=by rw[List.length_append]at e2;omega
        have hw:(w.drew.alloc (.cells c e)).heap=w.heap.push (.cells c e):=rfl
        have hlN:(G.new w.heap.size (some 0) []).ls[id]?=some loc:=by simp only[aM.new,List.append_nil];exact hl
        have Am:qq w G (w.drew.alloc (.cells c e)) ((G.new w.heap.size (some 0) []).at id ⟨some ⟨w.heap.size,0,none⟩,MQ,(old++new).length,jf,v+1,false,pH jf (old++new).length (loc.vals.flatten++news)⟩):=
         (qu hw (some 0) []).trans (JG hlN (by simp;omega) λh=>by rcases h with h|h<;>simp_all<;>omega)
        refine⟨_,_,_,e1,qz hI hB hX hl fh Am (loc':=⟨some ⟨w.heap.size,0,none⟩,MQ,(old++new).length,jf,v+1,false,pH jf (old++new).length (loc.vals.flatten++news)⟩) (by simp only[aM.at,aM.new,List.append_nil]) ⟨rfl,rfl,mq (b:=w.heap.size) (off:=0) (c:=c) (e:=e) (xs:=loc.vals.flatten++news) ji (nB gQ.AE iA) ?_ rfl rfl rfl rfl hcp (pJ hw) (by simpa using e3) e2 (by simp[aM.at,aM.new]) λk x hk=>?_⟩
         (λb p hp=>?_) (λb hb _=>?_) (by rw[hw];simp) rfl rfl (.mu _ _ _ _ ⟨_,_,_,rfl⟩ (by simp only[aM.at];rw[List.getElem?_set,if_pos rfl,if_pos (List.getElem?_eq_some_iff.1 hlN).1]) (Nat.le_refl _) λ_=>by simp[gQ.len]) λb'=>?_⟩
        ·rw[qy]
         exact(GH.mono Am λb' lN=>gn (G:=G) hw (some 0) [] (GH.held lN)).append (dy.mono Am λb' lN=>by rw[Fa]at lN;omega)
        ·rw[Nat.zero_add];exact Bw hw (e4 k x hk)
        ·simp only[aM.at,aM.new]at hp
         rw[hw,Array.size_push]
         split at hp
         ·omega
         ·have:=hI.lF b p hp;omega
        ·exact gn (G:=G) hw (some 0) [] hb
        ·have He:(⟨some ⟨w.heap.size,0,none⟩,MQ,(old++new).length,jf,v+1,false,pH jf (old++new).length (loc.vals.flatten++news)⟩:j9).jl=some w.heap.size:=by
          unfold j9.jl;rw[if_neg (show ¬MQ=0 by omega)];rfl
         simp only[cv,fj,gX]
         rw[He,pI b' (old++new) _ (cn.1 ji) (by rw[qy,List.length_append,List.length_append,GH.1,dy.1]),qy,fy b' _ _ _ _ GH.1,Fa,TR]
         simp only[Option.some.injEq]
         by_cases hb:w.heap.size=b'
         ·subst hb;rw[if_pos (Nat.le_refl _)];simp;omega
         ·rw[if_neg hb];omega
     ·cases ha
    ·cases ha
   ·cases ha
  ·cases ha
theorem MS{t tx ty e:TypeId}{sz bytes:Nat}{i:TypeInfo}{z:Value}(h:JI P t tx e sz bytes i z){st:aj}{bx:aU}(hI:iH w G st)(hB:jD w G β bx){cO:Nat->Nat}(hX:∀b,cO b+fM b β bx+b6 b G.ls st<=1)
  {s x:AV}{vs vx:Value}(hs:aO w G s vs)(hx:aO w G x vx){wl aa:Nat}{bS:aj}{fm:aU}{r:eG}(ha:aL wl aa (.mc sz bytes) [.val s,.val x] st bx=some (r,bS,fm)) :
  ∃v w' G',(Builtin.append_ #[t,tx] ty #[vs,vx]).run P w=.ok v w'/\iU w G β st bx cO w' G' β bS fm r v:=by
 simp only[aL]at ha
 split at ha
 ·cases ha
 ·rename_i new ry
  by_cases cm:bU sz new=true
  ·obtain⟨news,dy,mP,iA,iP,_⟩:=uV hI hx ry cm h.kind
   exact O9 hI hB hX hs dy (O8 h mP) iA iP ha
  ·unfold yC at ha
   rw[if_neg cm]at ha
   cases ha
theorem MU{t tx ty e:TypeId}{sz bytes:Nat}(ht:P.underlying t=some (.slice e))(hk:∃k,P.underlying tx=some (.int k))(eH:cx P e sz=true)(TO:nA P e bytes=true){zero:List AV}(hz:mW P e zero=true)(pos:0<sz)(O3:0<bytes)
  {st:aj}{bx:aU}(hI:iH w G st)(hB:jD w G β bx){cO:Nat->Nat}(hX:∀b,cO b+fM b β bx+b6 b G.ls st<=1)
  {s x:AV} {vs vx:Value} (hs:aO w G s vs) (hx:aO w G x vx) {wl aa:Nat} {bS:aj} {fm:aU} {r:eG} (ha:aL wl aa (.uJ sz bytes zero) [.val s,.val x] st bx=some (r,bS,fm)) :
  ∃v w' G',(Builtin.append_ #[t,tx] ty #[vs,vx]).run P w=.ok v w'/\iU w G β st bx cO w' G' β bS fm r v:=by
 simp only[aL]at ha
 split at ha
 ·rename_i n heq
  simp only[List.cons.injEq,eG.val.injEq,and_true]at heq
  obtain⟨rfl,rfl⟩:=heq
  split at ha
  ·rename_i hc
   obtain⟨h0,hr,Ll,nM⟩:=hc
   obtain⟨i,z,hi,OX,mO,GU,On⟩:=kK hz w G
   obtain⟨i',oT,Dq,_⟩:=kj eH
   rw[hi]at oT;cases oT
   have hb:i.bytes=bytes:=by simpa [nA,hi] using TO
   have OW:z.cells.size=sz:=by rw[<-Ll,mO.1];simp
   have hrz:=yG (n:=n.toNat) mO Ll pos
   rw[<-E9 z.cells n.toNat sz OW]at hrz
   have hR:=JJ (ty:=ty) ht hk hi OX Dq hb OW pos O3 h0 (by simpa [dQ] using hr) w (hrz.TB (cj.Dx λr hr=>by rw[List.eq_of_mem_replicate hr];exact On))
   cases hx
   rw[show n.toNat=(List.replicate n.toNat zero).length by simp]at hR
   exact O9 hI hB hX hs hrz (by simpa using hR) (λr hr=>by rw[List.eq_of_mem_replicate hr];exact On) (λr hr=>by rw[List.eq_of_mem_replicate hr];exact(cy zero).2 λc hc=>(GU c hc).1) ha
  ·cases ha
 ·cases ha
end Ax
namespace Ax
open Go
variable {P:Program}{w w':World}{G G':aM}{β gf:List lE}{ρ:Operand->Value}{o:Oper}
theorem xk{st:aj}(hI:iH w G st){id bX i k sz:Nat}{v:Value}{rows:List (List AV)}{r:List AV}(hp:aO w G (.ptr id bX i k) v)(fh:st[id]?=some (.rows bX sz rows))(hr:rows[i]?=some r) :
  ∃loc b off c e xs,G.ls[id]?=some loc/\loc.mp=false/\loc.bX=bX/\tN w G sz rows loc/\v=.pointer (some ⟨b,off+(i*sz+k),none⟩)/\loc.a=some ⟨b,off,none⟩/\0<loc.cap/\loc.jl=some b/\
   w.heap[b]?=some (.cells c e (0,0))/\off+loc.cap*sz<=c.size/\rows.length<=loc.cap/\G.kR b=some 0/\loc.vals[i]?=some xs/\cj w G r xs/\
   ∀(i:Nat) xs (j:Nat) x,loc.vals[i]?=some xs->xs[j]?=some x->w.cell? ⟨b,off+(i*sz+j),none⟩=some x:=by
 obtain⟨loc,hl,zz,yw,gQ⟩:=hI.loc fh
 cases hp with
 |ptr _ _ _ _ _ loc' hpp oc hv he=>
 rw[hl]at oc;cases oc
 obtain⟨a,tg,rfl⟩:=he yw.symm
 rcases gQ.oe with⟨_,qQ,_⟩|⟨b,off,c,e',JB,fo,eS,hle,hlen,gV,dw⟩
 ·subst qQ;simp at hr
 ·rw[JB]at tg;cases tg
  have hi:i<loc.vals.length:=by rw[gQ.qO];exact(List.getElem?_eq_some_iff.1 hr).1
  have hv:=List.getElem?_eq_getElem hi
  exact⟨loc,b,off,c,e',loc.vals[i],hl,zz,yw,gQ,by rw[gQ.size],JB,fo,by unfold j9.jl;rw[if_neg (by omega),JB];rfl,eS,hle,hlen,gV,hv,gQ.rm i r _ hr hv,dw⟩
theorem jo{as vs:List AV}(h:AV.aK as=true)(k:AV.aK vs=true){n:Nat}(hn:n+vs.length<=as.length):AV.aK (af as n vs)=true:=by
 rw[jn _ _ _ hn]
 simp only[AV.aK,List.all_eq_true,List.mem_append]at *
 intro x hx
 rcases hx with (hx|hx)|hx
 ·exact h x (List.mem_of_mem_take hx)
 ·exact k x hx
 ·exact h x (List.mem_of_mem_drop hx)
theorem TZ{t:TypeId}{x y:Operand}{n:Nat}(ho:o.op=.store t x y)(hn:cx P t n=true){st:aj}{bx:aU}(hI:iH w G st)(hB:jD w G β bx){cO:Nat->Nat}(hX:∀b,cO b+fM b β bx+b6 b G.ls st<=1)
  {p v:AV}(hp:aO w G p (ρ x))(hv:aO w G v (ρ y))(n5:∀b,fj b v (ρ y)<=cO b){wl aa:Nat}{bS:aj}{fm:aU}{r:eG}(ha:aL wl aa (.store n) [.val p,.val v] st bx=some (r,bS,fm)) :
  ∃w' G',(execOp ρ o).run P w=.ok .skip w'/\iU w G β st bx cO w' G' β bS fm r undef:=by
 simp only[aL]at ha
 split at ha
 ·rename_i jG
  simp only[Bool.and_eq_true,decide_eq_true_eq]at jG
  obtain⟨T1,Dy⟩:=jG
  split at ha
  ·rename_i lM hw
   cases ha
   unfold dR at hw
   split at hw
   ·rename_i id bX i k
    split at hw
    ·rename_i ve sz rows fh
     split at hw
     ·rename_i E5
      simp only[Bool.and_eq_true,decide_eq_true_eq]at E5
      obtain⟨rfl,_⟩:=E5
      split at hw
      ·rename_i row dg
       split at hw
       ·rename_i cm
        cases hw
        obtain⟨loc,b,off,c,e,xs,hl,zz,yw,gQ,Hf,tg,fo,ff,eS,hle,hlen,gV,JK,kT,dw⟩:=xk hI hp fh dg
        obtain⟨BB,Le⟩:=hv.cells
        have rU:row.length=sz:=cn.1 gQ.Dp row (cU dg)
        have hxl:xs.length=sz:=by rw[<-kT.1];exact rU
        have hi:i<rows.length:=(List.getElem?_eq_some_iff.1 dg).1
        have S8:(ρ y).cells.toList.length=v.cells.length:=BB.1.symm
        have O2:=BB.TB Dy
        have JL:off+(i*sz+k)+(ρ y).cells.toList.length<=c.size:=by
         have h1:(i+1)*sz<=loc.cap*sz:=Nat.mul_le_mul_right _ (by omega)
         rw[Nat.succ_mul]at h1
         omega
        have An:=gu (P:=P) b (off+(i*sz+k)) e (ρ y).cells.toList c w eS JL O2
        have Dw:=Bz (loc':={ loc with vals:=loc.vals.set i (af xs k (ρ y).cells.toList) }) hl (Nat.le_refl _) λ_=>rfl
        have hW:Wr w G (w.setRow b (af c.toList (off+(i*sz+k)) (ρ y).cells.toList).toArray) ⟨(G.at id { loc with vals:=loc.vals.set i (af xs k (ρ y).cells.toList) }).ls,λb'=>if b'=b then some 0 else G.kR b'⟩ b:=
         BA eS JL gV (Nat.zero_le _) (Nat.le_refl _) Dw
        have kW:cO b=0/\fz b rows loc.vals=0:=by
         have h1:=hX b
         have h2:=mm b G.ls st id loc _ hl fh
         simp only[gX,ff,if_true]at h2
         omega
        refine⟨_,⟨(G.at id { loc with vals:=loc.vals.set i (af xs k (ρ y).cells.toList) }).ls,λb'=>if b'=b then some 0 else G.kR b'⟩,?_,qz hI hB hX hl fh hW.iR rfl ⟨zz,yw,?_⟩ (hW.lF hI) (λb' _ lN=>hW.iT λe=>lN (by rw[ff,e])) (by simp) rfl rfl trivial λb'=>?_⟩
        ·have eH:(ρ y).cells.size=n:=by rw[<-T1,BB.1];simp
         simp only[execOp,ho,Hf,Sem.run_bind,Instr.storeAt,Instr.sureAddr,Sem.run_pure,Result.andThen_ok,storeVar,dK hn,eH,ne_eq,not_true_eq_false,if_false,An]
        ·have aci:cj (w.setRow b (af c.toList (off+(i*sz+k)) (ρ y).cells.toList).toArray) ⟨(G.at id { loc with vals:=loc.vals.set i (af xs k (ρ y).cells.toList) }).ls,λb'=>if b'=b then some 0 else G.kR b'⟩ v.cells (ρ y).cells.toList:=
          BB.mono hW.iR λb' lN=>hW.iT λe=>by
           subst e
           rw[Le]at lN
           have:=n5 b'
           omega
         have hold:∀(i':Nat) r' Jo,rows[i']?=some r'->loc.vals[i']?=some Jo->cj (w.setRow b (af c.toList (off+(i*sz+k)) (ρ y).cells.toList).toArray) ⟨(G.at id { loc with vals:=loc.vals.set i (af xs k (ρ y).cells.toList) }).ls,λb'=>if b'=b then some 0 else G.kR b'⟩ r' Jo:=λi' r' Jo h1 h2=>
          (gQ.rm i' r' Jo h1 h2).mono hW.iR λb' lN=>hW.iT λe=>by
           subst e
           have:=uU b' rows loc.vals i' r' Jo h1 h2
           omega
         refine⟨cn.2 λr' vM=>?_,λr' vM=>?_,by simp[gQ.len],gQ.size,by simp[gQ.qO],λi' r' Jo h1 h2=>?_,.inr ⟨b,off,_,e,tg,fo,setRow_heap w b c _ e (0,0) eS,by rw[List.size_toArray,dx];simpa using hle,by simpa using hlen,by simp,λi' Jo j z h1 h2=>?_⟩⟩
         ·rcases List.mem_or_eq_of_mem_set vM with h|h
          ·exact cn.1 gQ.Dp r' h
          ·rw[h,dx];exact rU
         ·rcases List.mem_or_eq_of_mem_set vM with h|h
          ·exact gQ.AE r' h
          ·rw[h];exact jo (gQ.AE row (cU dg)) Dy cm
         ·simp only at h2
          rw[List.getElem?_set]at h1 h2
          by_cases JM:i=i'
          ·subst JM
           rw[if_pos rfl,if_pos hi]at h1
           rw[if_pos rfl,if_pos (List.getElem?_eq_some_iff.1 JK).1]at h2
           cases h1;cases h2
           exact(hold i row xs dg JK).af aci cm
          ·rw[if_neg JM]at h1 h2
           exact hold i' r' Jo h1 h2
         ·simp only at h1
          rw[qx eS JL]
          rw[List.getElem?_set]at h1
          by_cases JM:i=i'
          ·subst JM
           rw[if_pos rfl]at h1
           split at h1
           ·cases h1
            rw[iS _ _ _ _ (by rw[S8,hxl,<-rU];exact cm)]at h2
            split at h2
            ·rename_i hj
             rw[if_pos (by omega),show off+(i*sz+j)-(off+(i*sz+k))=j-k by omega]
             exact h2
            ·rename_i hj
             rw[if_neg (by omega)]
             exact dw i xs j z JK h2
           ·cases h1
          ·rw[if_neg JM]at h1
           have hj:j<sz:=by
            have h3:=(List.getElem?_eq_some_iff.1 h2).1
            have h4:=gQ.flat.2.2.1 Jo (cU h1)
            omega
           have:¬(off+(i*sz+k)<=off+(i'*sz+j)/\off+(i'*sz+j)<off+(i*sz+k)+(ρ y).cells.toList.length):=by
            rcases Nat.lt_or_gt_of_ne JM with bn|bn
            ·have h5:(i+1)*sz<=i'*sz:=Nat.mul_le_mul_right _ bn
             rw[Nat.succ_mul]at h5
             omega
            ·have h5:(i'+1)*sz<=i*sz:=Nat.mul_le_mul_right _ bn
             rw[Nat.succ_mul]at h5
             omega
           rw[if_neg this]
           exact dw i' Jo j z h1 h2
        ·have h1:=rq b' rows loc.vals i row xs (af row k v.cells) (af xs k (ρ y).cells.toList) dg JK
         have h2:=pF b' row v.cells xs (ρ y).cells.toList k kT.1 BB.1 cm
         have h3:=n5 b'
         rw[Le]at h2
         have hb:(if ({ loc with vals:=loc.vals.set i (af xs k (ρ y).cells.toList) }:j9).jl=some b' then 1 else 0)=(if loc.jl=some b' then 1 else 0):=rfl
         simp only[cv,gX]
         rw[hb]
         omega
       ·cases hw
      ·cases hw
     ·cases hw
    ·cases hw
   ·cases hw
  ·cases ha
 ·cases ha
theorem aO.iM{a:AV}{v:Value}(h:aO w G a v):aO w G a.iM v:=by
 cases h with
 |je sz rows a cap oG fo cm iP nM uK hc hr gV ff=>exact .gone _ rfl
 |raw sz rows a cap oG fo cm iP nM uK hc hr gV ff=>exact .gone _ rfl
 |agg cs vs hl h=>exact .agg cs vs hl h
 |fK cs vs hl h=>exact .fK cs vs hl h
 |undef=>exact .undef
 |gone v h=>exact .gone v h
 |bool b=>exact .bool b
 |int k n=>exact .int k n
 |str l s h=>exact .str l s h
 |eO=>exact .eO
 |U=>exact .U
 |fG=>exact .fG
 |iw=>exact .iw
 |jF=>exact .jF
 |dj sz rows a cap oG fo cm iP nM uK hc hr=>exact .dj sz rows a cap oG fo cm iP nM uK hc hr
 |kV a=>exact .kV a
 |mu id bX v loc hp hl hv he=>exact .mu id bX v loc hp hl hv he
 |ptr id bX i k v loc hp hl hv he=>exact .ptr id bX i k v loc hp hl hv he
 |ox sz rows i k a cap hl=>exact .ox sz rows i k a cap hl
 |map id loc b hl hm hb=>exact .map id loc b hl hm hb
 |fn f first ke vf vc hl hm hn h k=>exact .fn f first ke vf vc hl hm hn h k
theorem Pa(b:Nat)(a:AV)(v:Value)(h:a.cH=true):fj b a.iM v=0:=by
 refine eJ b _ _ ?_
 cases a<;>simp_all [AV.iM,AV.bZ,AV.cH]
theorem Hh(a:AV)(h:a.cH=true):a.iM.cH=true:=by
 cases a<;>simp_all [AV.iM,AV.cH]
theorem cj.iM{as:List AV}{xs:List Value}(h:cj w G as xs):cj w G (as.map AV.iM) xs:=by
 refine⟨by simp[h.1],λi c v h1 h2=>?_⟩
 simp only[List.getElem?_map,Option.map_eq_some_iff]at h1
 obtain⟨c',h1,rfl⟩:=h1
 exact(h.2 i c' v h1 h2).iM
theorem DY(b:Nat):∀(as:List AV)(xs:List Value),AV.aK as=true->bV b (as.map AV.iM) xs=0
 |[],xs,_=>by simp[bV]
 |a::as,[],_=>by simp[bV]
 |a::as,x::xs,h=>by
  simp only[AV.aK,List.all_cons,Bool.and_eq_true]at h
  have:=DY b as xs h.2
  simp only[List.map_cons,bV,Pa b a x h.1,this]
theorem Dz{as:List AV}(h:AV.aK as=true):AV.aK (as.map AV.iM)=true:=by
 simp only[AV.aK,List.all_eq_true,List.mem_map]at *
 rintro x ⟨y,hy,rfl⟩
 exact Hh y (h y hy)
theorem Ff{as:List AV}(h:AV.aK as=true)(k n:Nat):AV.aK ((as.drop k).take n)=true:=by
 simp only[AV.aK,List.all_eq_true]at *
 intro x hx
 exact h x (List.mem_of_mem_drop (List.mem_of_mem_take hx))
theorem rW{α:Type}(xs:List α)(k n:Nat)(h:k+n<=xs.length):af xs k ((xs.drop k).take n)=xs:=by
 rw[jn _ _ _ (by simp;omega)]
 have:((xs.drop k).take n).length=n:=by simp;omega
 rw[this,List.append_assoc,<-List.drop_drop,List.take_append_drop,List.take_append_drop]
theorem Hi{r cs:List AV}{xs:List Value}{k n:Nat}(hr:cj w G r xs)(hc:cut r k n=some cs)(iA:AV.aK r=true) :
  cj w G (af r k (cs.map AV.iM)) xs/\AV.aK (af r k (cs.map AV.iM))=true/\∀b,bV b (af r k (cs.map AV.iM)) xs+bV b cs ((xs.drop k).take n)=bV b r xs:=by
 obtain⟨rfl,hle,hlen⟩:=pG hc
 have OU:=Ff iA k n
 have JN:k+n<=xs.length:=by rw[<-hr.1];exact hle
 have Wm:=rW xs k n JN
 refine⟨?_,jo iA (Dz OU) (by rw[List.length_map];omega),λb=>?_⟩
 ·have:=hr.af ((hr.drop k).take n).iM (n:=k) (by rw[List.length_map];omega)
  rw[Wm]at this
  exact this
 ·have h1:=ko b k r xs hr.1
  have h2:=ko b n (r.drop k) (xs.drop k) (by simp[hr.1])
  have h3:=DY b ((r.drop k).take n) ((xs.drop k).take n) OU
  have e:bV b (af r k (((r.drop k).take n).map AV.iM)) xs=bV b (af r k (((r.drop k).take n).map AV.iM)) (af xs k ((xs.drop k).take n)):=by rw[Wm]
  rw[e,jn _ _ _ (by rw[List.length_map];omega),jn _ _ _ (by simp;omega),fy b _ _ _ _ (by have:=hr.1;simp;omega),fy b _ _ _ _ (by have:=hr.1;simp;omega),h3]
  have l1:(((r.drop k).take n).map AV.iM).length=n:=by rw[List.length_map];omega
  have l2:((xs.drop k).take n).length=n:=by simp;omega
  rw[l1,l2]
  rw[List.drop_drop,List.drop_drop]at h2
  omega
theorem gv{α:Type}(l:List α)(i:Nat)(x:α)(h:l[i]?=some x):l.set i x=l:=by
 apply List.ext_getElem?
 intro j
 rw[List.getElem?_set]
 split
 ·rename_i e;subst e
  split
  ·exact h.symm
  ·rename_i hn;exact absurd (List.getElem?_eq_some_iff.1 h).1 hn
 ·rfl
theorem JO{t:TypeId}{x:Operand}{n:Nat}{agg:Bool}(ho:o.op=.load t x)(hn:cx P t n=true)(qP:mh P t=some agg)(kW:agg=false->n=1){st:aj}{bx:aU}(hI:iH w G st)(hB:jD w G β bx){cO:Nat->Nat}(hX:∀b,cO b+fM b β bx+b6 b G.ls st<=1)
  {p:AV}(hp:aO w G p (ρ x)){wl aa:Nat}{bS:aj}{fm:aU}{r:eG}(ha:aL wl aa (.load agg n true) [.val p] st bx=some (r,bS,fm)) :
  ∃v,(execOp ρ o).run P w=.ok (.value v) w/\iU w G β st bx cO w G β bS fm r v:=by
 simp only[aL,if_true]at ha
 split at ha
 ·rename_i cs BD
  split at ha
  ·rename_i lM v hw hv
   cases ha
   unfold dR at hw
   split at hw
   ·rename_i id bX i k
    split at hw
    ·rename_i ve sz rows fh
     split at hw
     ·rename_i E5
      simp only[Bool.and_eq_true,decide_eq_true_eq]at E5
      obtain⟨rfl,_⟩:=E5
      split at hw
      ·rename_i row dg
       split at hw
       ·rename_i cm
        cases hw
        simp only[fY,fh,dg,if_true]at BD
        obtain⟨loc,b,off,c,e,xs,hl,zz,yw,gQ,Hf,tg,fo,ff,eS,hle,hlen,gV,JK,kT,dw⟩:=xk hI hp fh dg
        obtain⟨t1,t2,t3⟩:=Hi kT BD (gQ.AE row (cU dg))
        obtain⟨n5,JP,BE⟩:=pG BD
        have hxl:xs.length=row.length:=kT.1.symm
        have Lq:((xs.drop k).take n).length=n:=by simp;omega
        have dy:cj w G cs ((xs.drop k).take n):=by rw[n5];exact(kT.drop k).take n
        obtain⟨u,h1,h2,h3⟩:=E6 ho hn qP kW Hf Lq dy (λj z hz=>by
         rw[List.getElem?_take]at hz
         split at hz
         ·rw[List.getElem?_drop]at hz
          rw[show off+(i*sz+k)+j=off+(i*sz+(k+j)) by omega]
          exact dw i xs (k+j) z JK hz
         ·cases hz) hv
        refine⟨u,h1,qz hI hB hX hl fh (qq.refl w G) (gv _ _ _ hl).symm ⟨zz,yw,?_⟩ hI.lF (λb _ _=>⟨rfl,rfl⟩) (Nat.le_refl _) rfl rfl h2 λb'=>?_⟩
        ·refine⟨cn.2 λr' vM=>?_,λr' vM=>?_,by simp[gQ.len],gQ.size,by simp[gQ.qO],λi' r' Jo h1 h2=>?_,.inr ⟨b,off,c,e,tg,fo,eS,hle,by simpa using hlen,gV,dw⟩⟩
         ·rcases List.mem_or_eq_of_mem_set vM with h|h
          ·exact cn.1 gQ.Dp r' h
          ·rw[h,dx];exact cn.1 gQ.Dp row (cU dg)
         ·rcases List.mem_or_eq_of_mem_set vM with h|h
          ·exact gQ.AE r' h
          ·rw[h];exact t2
         ·rw[List.getElem?_set]at h1
          by_cases JM:i=i'
          ·subst JM
           rw[if_pos rfl]at h1
           split at h1
           ·cases h1
            rw[JK]at h2;cases h2
            exact t1
           ·cases h1
          ·rw[if_neg JM]at h1
           exact gQ.rm i' r' Jo h1 h2
        ·have h4:=rq b' rows loc.vals i row xs (af row k (cs.map AV.iM)) xs dg JK
         rw[gv _ _ _ JK]at h4
         have h5:=t3 b'
         have h6:=h3 b'
         simp only[cv,gX]
         omega
       ·cases hw
      ·cases hw
     ·cases hw
    ·cases hw
   ·cases hw
  ·cases ha
 ·cases ha
end Ax
namespace Ax
open Go
variable {P:Program}{w w':World}{G G':aM}{β gf:List lE}{ρ:Operand->Value}{o:Oper}
def eK(nb:Option Nat)(β gf:List lE):Prop:=∀(j:Nat) g,β[j]?=some g->∃g',gf[j]?=some g'/\(nb≠some j->g'.jl=g.jl)
theorem eK.refl(nb:Option Nat)(β:List lE):eK nb β β:=λ_ g h=>⟨g,h,λ_=>rfl⟩
theorem eK.set{nb:Option Nat}{j:Nat}{g g':lE}(hg:β[j]?=some g)(h:nb≠some j->g'.jl=g.jl):eK nb β (β.set j g'):=by
 intro i x hx
 by_cases hi:j=i
 ·subst hi
  rw[hg]at hx;cases hx
  exact⟨g',by rw[List.getElem?_set,if_pos rfl,if_pos (List.getElem?_eq_some_iff.1 hg).1],h⟩
 ·exact⟨x,by rw[List.getElem?_set,if_neg hi];exact hx,λ_=>rfl⟩
theorem BF{st:aj}{bx:aU}{cO:Nat->Nat}(hI:iH w G st)(hB:jD w G β bx)(hX:∀b,cO b+fM b β bx+b6 b G.ls st<=1){j:Nat}{g g':lE}{row row':List AV}{e:eG}{v:Value}
  (hg:β[j]?=some g)(hr:bx[j]?=some row)(ff:g'.jl=g.jl)(hs:qq w G w' G')(JH:G'.ls=G.ls)(ry:xg w' G' row' g')(ht:∀b p,G'.kR b=some p->b<w'.heap.size)
  (G8:∀b,b<w.heap.size->g.jl≠some b->dL w G w' G' b) (O6:w.heap.size<=w'.heap.size) (Jn:w'.os=w.os) (vL:w'.output=w.output) (dy:jQ w' G' (β.set j g') e v)
  (hc:∀b,cv b e v+bV b row' g'.vals<=cO b+bV b row g.vals):iU w G β st bx cO w' G' (β.set j g') st (bx.set j row') e v:=by
 have key:∀b,g.jl=some b->1<=(if g.jl=some b then 1 else 0)+bV b row g.vals:=λb h=>by rw[if_pos h];omega
 refine⟨hs,tT hI hs JH (λb hb=>G8 b (hI.held hb) λh=>?_) ht,⟨by simp[hB.len],λi r x h1 h2=>?_⟩,dy,λb=>?_,λb hb bn=>G8 b bn λh=>?_,O6,Jn,vL⟩
 ·have h1:=key b h
  have h2:=mo b β bx j g row hg hr
  have:=hX b
  omega
 ·rw[List.getElem?_set]at h1 h2
  by_cases Al:j=i
  ·subst Al
   rw[if_pos rfl,if_pos (List.getElem?_eq_some_iff.1 hr).1]at h1
   rw[if_pos rfl,if_pos (List.getElem?_eq_some_iff.1 hg).1]at h2
   cases h1;cases h2;exact ry
  ·rw[if_neg Al]at h1 h2
   refine(hB.box i r x h1 h2).iR hs λb hb=>G8 b (hB.held (b:=b) (by have:=mo b β bx i x r h2 h1;omega)) λh=>?_
   have h3:=key b h
   have h4:=G4 b β bx i j x r g row (λe=>Al e.symm) h2 h1 hg hr
   have:=hX b
   omega
 ·have h1:=xd b β bx j g row g' row' hg hr
  have h2:=hc b
  rw[JH]
  rw[ff]at h1
  omega
 ·have h1:=key b h
  have h2:=mo b β bx j g row hg hr
  omega
theorem Fg{bx:aU}(hB:jD w G β bx){j k:Nat}{v:Value}{row:List AV}(hp:jQ w G β (.fp j k) v)(hr:bx[j]?=some row) :
  ∃g b c e,β[j]?=some g/\g.jl=some b/\v=.pointer (some ⟨b,k,none⟩)/\xg w G row g/\w.heap[b]?=some (.cells c e (0,0))/\row.length<=c.size/\G.kR b=some 0/\∀(k:Nat) x,g.vals[k]?=some x->w.cell? ⟨b,k,none⟩=some x:=by
 obtain⟨g,b,h1,h2,h3⟩:=hp
 have hb:=hB.box j row g hr h1
 rcases hb.oe with⟨h0,_⟩|⟨b',c,e,h4,h5,h6,h7,h8⟩
 ·rw[h0]at h2;cases h2
 ·rw[h2]at h4;cases h4
  exact⟨g,b,c,e,h1,h2,h3,hb,h5,h6,h7,h8⟩
theorem Pb{t:TypeId}{x y:Operand}{j0 n:Nat}(ho:o.op=.store t x y)(hn:cx P t n=true){st:aj}{bx:aU}(hI:iH w G st)(hB:jD w G β bx){cO:Nat->Nat}(hX:∀b,cO b+fM b β bx+b6 b G.ls st<=1)
  {p v:eG}(hp:jQ w G β p (ρ x))(hv:jQ w G β v (ρ y))(n5:∀b,cv b v (ρ y)<=cO b){wl aa:Nat}{bS:aj}{fm:aU}{r:eG}(ha:aL wl aa (.ai j0 n) [p,v] st bx=some (r,bS,fm)) :
  ∃w' G' gf,(execOp ρ o).run P w=.ok .skip w'/\iU w G β st bx cO w' G' gf bS fm r undef/\eK none β gf:=by
 unfold aL at ha
 simp only at ha
 split at ha
 ·rename_i j k v heq
  cases heq
  split at ha
  ·rename_i jG
   simp only[Bool.and_eq_true,decide_eq_true_eq]at jG
   obtain⟨⟨rfl,T1⟩,Dy⟩:=jG
   split at ha
   ·rename_i row hr
    split at ha
    ·rename_i cm
     cases ha
     obtain⟨g,b,c,e,hg,ff,Hf,th,eS,hle,gV,dw⟩:=Fg hB hp hr
     obtain⟨BB,Le⟩:=aO.cells hv
     have S8:(ρ y).cells.toList.length=n:=by rw[<-T1];exact BB.1.symm
     have JL:k+(ρ y).cells.toList.length<=c.size:=by omega
     have An:=gu (P:=P) b k e (ρ y).cells.toList c w eS JL (BB.TB Dy)
     have hW:Wr w G (w.setRow b (af c.toList k (ρ y).cells.toList).toArray) ⟨G.ls,λb'=>if b'=b then some 0 else G.kR b'⟩ b:=BA eS JL gV (Nat.zero_le _) (Nat.le_refl _) (By G)
     have kW:cO b=0/\bV b row g.vals=0:=by
      have h1:=hX b
      have h2:=mo b β bx j0 g row hg hr
      rw[if_pos ff]at h2
      omega
     refine⟨_,⟨G.ls,λb'=>if b'=b then some 0 else G.kR b'⟩,β.set j0 ⟨g.jl,af g.vals k (ρ y).cells.toList⟩,?_,BF hI hB hX hg hr rfl hW.iR rfl ⟨?_,jo th.AE Dy (by rw[T1];exact cm),.inr ⟨b,_,e,ff,setRow_heap w b c _ e (0,0) eS,?_,by simp,λi z hz=>?_⟩⟩ (hW.lF hI) (λb' _ lN=>hW.iT λe=>lN (by rw[ff,e])) (by simp) rfl rfl trivial λb'=>?_,eK.set hg λ_=>rfl⟩
     ·have eH:(ρ y).cells.size=n:=by simpa using S8
      simp only[execOp,ho,Hf,Sem.run_bind,Instr.storeAt,Instr.sureAddr,Sem.run_pure,Result.andThen_ok,storeVar,dK hn,eH,ne_eq,not_true_eq_false,if_false,An]
     ·refine(th.lC.mono hW.iR λb' lN=>hW.iT λe=>?_).af (BB.mono hW.iR λb' lN=>hW.iT λe=>?_) (by rw[T1];exact cm)
      ·subst e;omega
      ·subst e
       rw[Le]at lN
       have:=n5 b'
       simp only[cv]at this
       omega
     ·rw[dx,List.size_toArray,dx];simpa using hle
     ·rw[qx eS JL]
      simp only at hz
      rw[iS _ _ _ _ (by rw[S8];rw[<-th.lC.1];exact cm)]at hz
      split at hz
      ·rename_i hi;rw[if_pos hi];exact hz
      ·rename_i hi;rw[if_neg hi];exact dw i z hz
     ·have h2:=pF b' row v.cells g.vals (ρ y).cells.toList k th.lC.1 BB.1 (by rw[T1];exact cm)
      have h3:=n5 b'
      rw[Le]at h2
      simp only[cv]at h3 ⊢
      omega
    ·cases ha
   ·cases ha
  ·cases ha
 ·cases ha
theorem T2{t:TypeId}{x:Operand}{j0 n:Nat}{agg take:Bool}(ho:o.op=.load t x)(hn:cx P t n=true)(qP:mh P t=some agg)(kW:agg=false->n=1){st:aj}{bx:aU}(hI:iH w G st)(hB:jD w G β bx){cO:Nat->Nat}(hX:∀b,cO b+fM b β bx+b6 b G.ls st<=1)
  {p:eG}(hp:jQ w G β p (ρ x)){wl aa:Nat}{bS:aj}{fm:aU}{r:eG}(ha:aL wl aa (.aE j0 agg n take) [p] st bx=some (r,bS,fm)) :
  ∃v,(execOp ρ o).run P w=.ok (.value v) w/\iU w G β st bx cO w G β bS fm r v:=by
 unfold aL at ha
 simp only at ha
 split at ha
 ·rename_i j k heq
  cases heq
  split at ha
  ·rename_i hj
   subst hj
   split at ha
   ·rename_i row hr
    split at ha
    ·rename_i cs Pc
     obtain⟨g,b,c,e,hg,ff,Hf,th,eS,hle,gV,dw⟩:=Fg hB hp hr
     obtain⟨n5,JP,BE⟩:=pG Pc
     have hxl:g.vals.length=row.length:=th.lC.1.symm
     have Lq:((g.vals.drop k).take n).length=n:=by simp;omega
     have dy:cj w G cs ((g.vals.drop k).take n):=by rw[n5];exact(th.lC.drop k).take n
     have mQ:∀(j:Nat) y,((g.vals.drop k).take n)[j]?=some y->w.cell? ⟨b,k+j,none⟩=some y:=λj z hz=>by
      rw[List.getElem?_take]at hz
      split at hz
      ·rw[List.getElem?_drop]at hz;exact dw _ z hz
      ·cases hz
     split at ha
     ·split at ha
      ·rename_i v hv
       cases ha
       obtain⟨u,h1,h2,h3⟩:=E6 ho hn qP kW Hf Lq dy mQ hv
       obtain⟨t1,t2,t3⟩:=Hi th.lC Pc th.AE
       have:=BF (e:=.val v) (v:=u) (g':=g) (row':=af row k (cs.map AV.iM)) hI hB hX hg hr rfl (qq.refl w G) rfl ⟨t1,t2,.inr ⟨b,c,e,ff,eS,by rw[dx];exact hle,gV,dw⟩⟩ hI.lF (λb _ _=>⟨rfl,rfl⟩) (Nat.le_refl _) rfl rfl h2 λb'=>by
        have h4:=t3 b'
        have h5:=h3 b'
        simp only[cv]
        omega
       rw[gv _ _ _ hg]at this
       exact⟨u,h1,this⟩
      ·cases ha
     ·split at ha
      ·rename_i v hv
       cases ha
       obtain⟨u,h1,h2,h3⟩:=E6 ho hn qP kW Hf Lq dy.view mQ hv
       refine⟨u,h1,iU.lO hI hB h2 λd=>?_⟩
       simp only[cv,h3 d]
       rw[dn d _ _ (fR cs)]
       omega
      ·cases ha
    ·cases ha
   ·cases ha
  ·cases ha
 ·cases ha
theorem BG(b:Nat):∀(n:Nat)(rs:List (List AV))(xs:List (List Value)),fz b (rs.take n) (xs.take n)<=fz b rs xs
 |0,rs,xs=>by simp[fz]
 |n+1,[],xs=>by simp[fz]
 |n+1,r::rs,[]=>by simp[fz]
 |n+1,r::rs,x::xs=>by
  have:=BG b n rs xs
  simp only[List.take_succ_cons,fz];omega
theorem Pd{t e:TypeId}{x hi:Operand}{sz:Nat}(ho:o.op=.slice t x none (some hi) none)(hu:P.underlying t=some (.slice e))(eH:cx P e sz=true){st:aj}{bx:aU}(hI:iH w G st)(hB:jD w G β bx){cO:Nat->Nat}(hX:∀b,cO b+fM b β bx+b6 b G.ls st<=1)
  {a h:AV}(ha:aO w G a (ρ x))(hh:aO w G h (ρ hi)){wl aa:Nat}{bS:aj}{fm:aU}{r:eG}(Ao:aL wl aa (.wz sz) [.val a,.val h] st bx=some (r,bS,fm)) :
  ∃v G',(execOp ρ o).run P w=.ok (.value v) w/\iU w G β st bx cO w G' β bS fm r v:=by
 unfold aL at Ao
 simp only at Ao
 split at Ao
 ·rename_i id bX n heq
  cases heq
  split at Ao
  ·rename_i v s rows fh
   split at Ao
   ·rename_i hc
    simp only[Bool.and_eq_true,decide_eq_true_eq]at hc
    obtain⟨⟨⟨⟨rfl,rfl⟩,h0⟩,h1⟩,_⟩:=hc
    cases Ao
    obtain⟨loc,hl,zz,yw,gQ⟩:=hI.loc fh
    generalize GS:ρ x=xv at ha
    cases ha with
    |mu _ _ _ loc' hp oc Dm he=>
    rw[hl]at oc;cases oc
    have cJ:=he (by omega)
    subst cJ
    have fo:rows.length<=loc.cap:=by
     rcases gQ.oe with⟨h0,h1,_⟩|⟨b,off,c,e',tg,fo,eS,eH,hlen,gV,dw⟩
     ·rw[h1];simp
     ·exact hlen
    have hhv:=hh.fD
    have ag2:(execOp ρ o).run P w=.ok (.value (.slice loc.a n.toNat loc.cap)) w:=by
     simp only[execOp,ho,GS,Sem.run_bind]
     have hb:(Instr.sliceBounds true loc.len loc.cap none (some (ρ hi)) none).run P w=.ok (0,n.toNat,loc.cap) w:=by
      have:=jR (P:=P) (tJ:=true) (len:=loc.len) (cap:=loc.cap) (lo:=none) (hi:=some hi) (ρ:=ρ) (a:=0) (b:=n) (.inl ⟨rfl,rfl⟩) (.inr ⟨hi,rfl,hhv⟩) (by omega) h0 (by omega) w
      simpa using this
     simp only[Instr.sliceAt,Sem.run_bind,run_underlying hu,Result.andThen_ok,Instr.slice,Option.map_none,Option.map_some,hb,dK eH,Sem.run_pure]
     rcases gQ.oe with⟨h0,h1,_⟩|⟨b,off,c,e',tg,fo,eS,eH,hlen,gV,dw⟩
     ·simp[h0]
     ·simp[tg,kq,show ¬loc.cap=0 by omega]
    have Am:qq w G w (G.at id ⟨loc.a,loc.cap,n.toNat,loc.sz,v+1,false,loc.vals.take n.toNat⟩):=JG hl (by simp;omega) λh=>by rcases h with h|h<;>simp_all<;>omega
    refine⟨_,_,ag2,qz (loc':=⟨loc.a,loc.cap,n.toNat,loc.sz,v+1,false,loc.vals.take n.toNat⟩) hI hB hX hl fh Am rfl ⟨rfl,rfl,?_⟩ hI.lF (λb _ _=>⟨rfl,rfl⟩) (Nat.le_refl _) rfl rfl (.mu _ _ _ _ ⟨_,_,_,rfl⟩ (by simp only[aM.at];rw[List.getElem?_set,if_pos rfl,if_pos (List.getElem?_eq_some_iff.1 hl).1]) (Nat.le_refl _) λ_=>rfl) λb=>?_⟩
    ·have hold:=og.iR (w':=w) (show og w G (.rows v s rows) loc from⟨zz,yw,gQ⟩) Am λb _=>⟨rfl,rfl⟩
     obtain⟨_,_,h3⟩:=hold
     refine⟨cn.2 λr hr=>cn.1 h3.Dp r (List.mem_of_mem_take hr),λr hr=>h3.AE r (List.mem_of_mem_take hr),by simp;omega,h3.size,by simp[h3.qO],λi r xs e1 e2=>?_,?_⟩
     ·simp only at e2
      rw[List.getElem?_take]at e1 e2
      split at e1
      ·rename_i bn;rw[if_pos bn]at e2;exact h3.rm i r xs e1 e2
      ·cases e1
     ·rcases h3.oe with⟨h0,h1,h2⟩|⟨b,off,c,e',tg,fo,eS,eH,hlen,gV,dw⟩
      ·exact .inl ⟨h0,by rw[h1];simp,h2⟩
      ·refine .inr ⟨b,off,c,e',tg,fo,eS,eH,by simp;omega,gV,λi xs j z e1 e2=>?_⟩
       simp only at e1
       rw[List.getElem?_take]at e1
       split at e1
       ·exact dw i xs j z e1 e2
       ·cases e1
    ·have h2:=BG b n.toNat rows loc.vals
     simp only[cv,fj]
     show 0+((if loc.jl=some b then 1 else 0)+fz b (rows.take n.toNat) (loc.vals.take n.toNat))<=cO b+((if loc.jl=some b then 1 else 0)+fz b rows loc.vals)+_
     omega
   ·cases Ao
  ·cases Ao
 ·cases Ao
end Ax
namespace Ax
open Go
variable {P:Program}{w w':World}{G G':aM}{β gf:List lE}{ρ:Operand->Value}{o:Oper}
theorem BH{r:Nat}{es:Array MapEntry}{clock:Nat}{ob:Obj}(h:w.heap[r]?=some (.map es clock)):(setObj r ob).run P w=.ok () { w with heap:=w.heap.setIfInBounds r ob }:=by
 simp[setObj,Sem.run,h]
theorem JQ{t:TypeId}{kk:SK}(ht:nN P t kk=true){k v:AV}{x y:Value}(hk:aO w G k x)(hv:aO w G v y)(Wn:k.bZ=true)(T1:v.bZ=true):∀(es tK:List (AV×AV))(fs:List MapEntry),wH w G es fs->Dt kk k v es=some tK->
  (∃i e u,qi kk k es=some (some u)/\fs[i]?=some e/\(∀(q:Option (Nat×Value)),(Instr.findKey t x fs).run P w=.ok q w->∃val,q=some (i,val))/\Dk kk k (es[i]?.map (·.1) |>.getD .undef)=some true/\(∃a,es[i]?=some a/\aO w G a.1 e.key)/\wH w G tK (fs.set i { e with key:=x,val:=y }))\/
  (qi kk k es=some none/\∀born,wH w G tK (fs++[{ key:=x,val:=y,born:=born }])):=by
 have hu:∃d,P.underlying t=some d:=by
  unfold nN at ht
  cases kk<;>simp only at ht<;>split at ht<;>(try cases ht)<;>exact⟨_,by assumption⟩
 obtain⟨d,hu⟩:=hu
 intro es
 induction es with
 |nil=>
  intro tK fs hM h
  simp only[Dt,Option.some.injEq]at h
  subst h
  have h0:fs=[]:=List.eq_nil_of_length_eq_zero (by simpa using hM.1)
  subst h0
  refine .inr ⟨rfl,λborn=>⟨rfl,λi a b e h1 h2=>?_⟩⟩
  cases i with
  |zero=>simp at h1 h2;obtain⟨rfl,rfl⟩:=h1;subst h2;exact⟨hk,hv,T1,Wn⟩
  |succ i=>simp at h1
 |cons c es ih=>
  intro tK fs hM h
  obtain⟨a,u⟩:=c
  cases fs with
  |nil=>have:=hM.1;simp at this
  |cons f fs=>
   obtain⟨g1,g2,g3,g4⟩:=hM.2 0 a u f rfl rfl
   simp only[Dt]at h
   split at h
   ·rename_i he
    cases h
    refine .inl ⟨0,f,u,by simp[qi,he],rfl,λq hq=>?_,by simpa using he,⟨(a,u),rfl,g1⟩,?_⟩
    ·have hs:=rS ht hu he hk g1
     have:(Instr.findKey t x (f::fs)).run P w=.ok (some (0,f.val)) w:=by simp[Instr.findKey,run_underlying hu,Instr.findNow,hs]
     rw[this]at hq;cases hq;exact⟨_,rfl⟩
    ·refine⟨by simpa using hM.1,λi p q e h1 h2=>?_⟩
     cases i with
     |zero=>simp at h1 h2;obtain⟨rfl,rfl⟩:=h1;subst h2;exact⟨hk,hv,T1,Wn⟩
     |succ i=>exact hM.2 (i+1) p q e (by simpa using h1) (by simpa using h2)
   ·rename_i he
    split at h
    ·rename_i r' vM
     cases h
     have hs:=rS ht hu he hk g1
     have Wo:∀es2 fs2,wH w G es2 fs2->wH w G ((a,u)::es2) (f::fs2):=λes2 fs2 h2=>⟨by simp[h2.1],λi p q e e1 e2=>by
      cases i with
      |zero=>simp at e1 e2;obtain⟨rfl,rfl⟩:=e1;subst e2;exact⟨g1,g2,g3,g4⟩
      |succ i=>exact h2.2 i p q e (by simpa using e1) (by simpa using e2)⟩
     rcases ih r' fs hM.tail vM with⟨i,e,u',f1,f2,f3,f4,f5,f6⟩|⟨f1,f2⟩
     ·refine .inl ⟨i+1,e,u',by simp[qi,he,f1],by simpa using f2,λq hq=>?_,by simpa using f4,by simpa using f5,by simpa using Wo _ _ f6⟩
      obtain⟨q0,e1,e2⟩:=rT ht hu hk es fs 0 _ hM.tail f1
      obtain⟨q1,e3,e4⟩:=rT ht hu hk es fs 1 _ hM.tail f1
      obtain⟨j0,e0,a1,_⟩:=e2
      obtain⟨j1,e0',b1,b2,_⟩:=e4
      have h0:(Instr.findKey t x fs).run P w=.ok q0 w:=by simp[Instr.findKey,run_underlying hu,e1]
      obtain⟨val,cJ⟩:=f3 q0 h0
      have:(Instr.findKey t x (f::fs)).run P w=.ok q1 w:=by simp[Instr.findKey,run_underlying hu,Instr.findNow,hs,e3]
      rw[this]at hq;cases hq
      have key:∀(fs:List MapEntry) (s:Nat) (q:Option (Nat×Value)),Instr.findNow d x fs s=some q->Instr.findNow d x fs (s+1)=some (q.map λz=>(z.1+1,z.2)):=by
       intro fs
       induction fs with
       |nil=>intro s q h;simp[Instr.findNow]at h ⊢;subst h;rfl
       |cons f fs ih=>
        intro s q h
        simp only[Instr.findNow]at h ⊢
        cases hsn:Instr.sameNow d x f.key with
        |none=>rw[hsn]at h;simp at h
        |some b=>
         rw[hsn]at h
         cases b with
         |true=>simp at h ⊢;subst h;rfl
         |false=>simp at h ⊢;exact ih _ _ h
      have h3:=key fs 0 q0 e1
      rw[Nat.zero_add]at h3
      rw[e3]at h3
      cases h3
      rw[cJ]
      exact⟨val,rfl⟩
     ·exact .inr ⟨by simp[qi,he,f1],λborn=>Wo _ _ (f2 born)⟩
    ·cases h
   ·cases h
theorem Hj{kk:SK}{a b:AV}{x y:Value}(h:Dk kk a b=some true)(ha:aO w G a x)(hb:aO w G b y)(n:Nat):Instr.sameBits n y x=true:=by
 unfold Dk at h
 split at h
 ·simp only[Option.some.injEq,beq_iff_eq]at h
  rw[ha.jm,hb.jm,h];simp[Instr.sameBits]
 ·split at h
  ·rename_i jq
   subst jq
   simp only[Option.some.injEq,beq_iff_eq]at h
   rw[ha.fD,hb.fD,h];simp[Instr.sameBits]
  ·cases h
 ·simp only[Option.some.injEq,beq_iff_eq]at h
  obtain⟨s,rfl,rfl⟩:=ha.lB
  obtain⟨s',rfl,h2⟩:=hb.lB
  have:s=s':=ByteArray.ext (Array.toList_inj.1 (h.trans h2.symm))
  subst this
  simp only[Instr.sameBits]
  rw[beq_toListBytes];exact beq_self_eq_true _
 ·cases h
theorem zG{t kt et:TypeId}{m k x:Operand}(ho:o.op=.mapUpdate t m k x\/o.op=.insert t m k x)(hu:P.underlying t=some (.map kt et)){kk:SK}(ht:nN P kt kk=true){st:aj}{bx:aU}(hI:iH w G st)(hB:jD w G β bx){cO:Nat->Nat}(hX:∀b,cO b+fM b β bx+b6 b G.ls st<=1)
  {am ak av:AV}(hm:aO w G am (ρ m))(hk:aO w G ak (ρ k))(hv:aO w G av (ρ x)){wl aa:Nat}{bS:aj}{fm:aU}{r:eG}(ha:aL wl aa (.mapUpdate kk) [.val am,.val ak,.val av] st bx=some (r,bS,fm)) :
  ∃w' G',(execOp ρ o).run P w=.ok .skip w'/\iU w G β st bx cO w' G' β bS fm r undef:=by
 unfold aL at ha
 simp only at ha
 split at ha
 ·rename_i id k0 v0 heq
  cases heq
  split at ha
  ·rename_i es fh
   split at ha
   ·rename_i jG
    simp only[Bool.and_eq_true]at jG
    split at ha
    ·rename_i tK MW
     cases ha
     have Wn:ak.bZ=true:=by
      have:=jG.1
      unfold DP at this
      split at this<;>first|rfl|cases this
     obtain⟨loc,hl,TA⟩:=hI.loc fh
     obtain⟨g1,g2,b,fs,clock,g3,g4,g5,g6,g7⟩:=TA
     have hmv:ρ m=.map (some b):=by
      generalize ρ m=mv at hm
      cases hm with
      |map _ loc' bk oc zz lN=>rw[hl]at oc;cases oc;rw[lN]at g3;cases g3;rfl
     have ff:loc.jl=some b:=by unfold j9.jl;rw[if_neg (by omega),g3];rfl
     have hM:wH w G es fs.toList:=⟨by simpa using g6,λi a v e e1 e2=>g7 i a v e e1 (by simpa using e2)⟩
     have TJ:(getObj b).run P w=.ok (.map fs clock) w:=by simp[getObj,Sem.run,g4]
     have hck:=run_checkKey (w:=w) ht false 9999 (ρ k)
     have kJ:∀(fs':Array MapEntry) (Fh:Nat),wH w G tK fs'.toList->
       iU w G β st bx cO { w with heap:=w.heap.setIfInBounds b (.map fs' Fh) } ⟨(G.at id loc).ls,λb'=>if b'=b then some 0 else G.kR b'⟩ β (st.set id (.map tK)) bx .none undef:=by
      intro fs' Fh hM'
      have bn:b<w.heap.size:=(Array.getElem?_eq_some_iff.1 g4).1
      have hW:Wr w G { w with heap:=w.heap.setIfInBounds b (.map fs' Fh) } ⟨(G.at id loc).ls,λb'=>if b'=b then some 0 else G.kR b'⟩ b:=
       ⟨by simp,λb' lN=>by simp only[Array.getElem?_setIfInBounds];rw[if_neg λe=>lN e.symm],λb' lN=>by simp[lN],⟨0,0,g5,by simp,Nat.le_refl _,λo ho=>by omega⟩,Bz hl (Nat.le_refl _) λ_=>rfl⟩
      refine qz hI hB hX hl fh hW.iR rfl ⟨g1,g2,b,fs',Fh,g3,?_,by simp,by simpa using hM'.1,λi a v e e1 e2=>?_⟩ (hW.lF hI) (λb' _ lN=>hW.iT λe=>lN (by rw[ff,e])) (by simp) rfl rfl trivial λb'=>by simp only[cv,gX];omega
      ·simp only[Array.getElem?_setIfInBounds];rw[if_pos trivial,if_pos bn]
      ·obtain⟨h1,h2,h3,h4⟩:=hM'.2 i a v e e1 (by simpa using e2)
       exact⟨h1.iR hW.iR λb hb=>by rw[eJ b a _ h4]at hb;omega,h2.iR hW.iR λb hb=>by rw[eJ b v _ h3]at hb;omega,h3,h4⟩
     have head:∀(w':World),(Instr.mapUpdate t (.map (some b)) (ρ k) (ρ x)).run P w=.ok () w'->(execOp ρ o).run P w=.ok .skip w':=by
      intro w' h
      rcases ho with ho|ho<;>simp only[execOp,ho,hmv,Sem.run_bind,h,Result.andThen_ok,Sem.run_pure]
     rcases JQ ht hk hv.view Wn (rR av) es tK fs.toList hM MW with⟨i,e,u,f1,f2,f3,f4,⟨a,f5,f6⟩,f7⟩|⟨f1,f2⟩
     ·obtain⟨q,e1,e2⟩:=run_findKey ht hk hM f1 w
      obtain⟨val,rfl⟩:=f3 q e1
      have Ta:fs[i]?=some e:=by simpa using f2
      refine⟨_,_,head _ ?_,kJ (fs.modify i λe=>{ e with key:=ρ k,val:=ρ x }) clock ?_⟩
      ·rw[f5]at f4
       have hsb:=Hj f4 hk f6 10000
       simp only[Instr.mapUpdate,Sem.run_bind,run_underlying hu,Result.andThen_ok,TJ,hck,e1,Ta,Option.map_some,Option.getD_some,Instr.keyThatStays,hsb,if_true,Sem.run_pure,BH g4]
      ·have:(fs.modify i λe=>{ e with key:=ρ k,val:=ρ x }).toList=fs.toList.set i { e with key:=ρ k,val:=ρ x }:=by
        rw[Array.toList_modify]
        apply List.ext_getElem?
        intro j
        rw[List.getElem?_modify,List.getElem?_set]
        by_cases Al:i=j
        ·subst Al
         simp[(Array.getElem?_eq_some_iff.1 Ta).1,(Array.getElem?_eq_some_iff.1 Ta).2]
        ·simp[Al]
       rw[this]
       exact f7
     ·obtain⟨q,e1,e2⟩:=run_findKey ht hk hM f1 w
      simp only at e2
      subst e2
      refine⟨_,_,head _ ?_,kJ (fs.push { key:=ρ k,val:=ρ x,born:=clock }) (clock+1) (by rw[Array.toList_push];exact f2 clock)⟩
      simp only[Instr.mapUpdate,Sem.run_bind,run_underlying hu,Result.andThen_ok,TJ,hck,e1,BH g4]
    ·cases ha
   ·cases ha
  ·cases ha
 ·cases ha
end Ax
namespace Ax
open Go
variable {P:Program}{w w':World}{G G':aM}{β gf:List lE}{ρ:Operand->Value}{o:Oper}
structure GI (w:World)(G:aM)(st:aj)(G':aM)(bS:aj):Prop where
 iR:qq w G w G'
 inv:iH w G' bS
 fj:∀b,b6 b G'.ls bS<=b6 b G.ls st
 tQ:∀b,b6 b G.ls st=0->G'.kR b=G.kR b
theorem GI.refl{st:aj}(hI:iH w G st):GI w G st G st:=⟨qq.refl w G,hI,λ_=>Nat.le_refl _,λ_ _=>rfl⟩
theorem GI.trans{G1 G2:aM}{st lM lZ:aj}(h:GI w G st G1 lM)(k:GI w G1 lM G2 lZ):GI w G st G2 lZ:=
 ⟨h.iR.trans k.iR,k.inv,λb=>Nat.le_trans (k.fj b) (h.fj b),λb hb=>(k.tQ b (by have:=h.fj b;omega)).trans (h.tQ b hb)⟩
mutual
theorem tV:∀a:AV,a.an=true->a.view.an=true
 |.je _ _,_=>by simp[AV.view,AV.an]
 |.raw _ _,_=>by simp[AV.view,AV.an]
 |.agg cs,h=>by simp only[AV.view,AV.an]at *;exact nC cs h
 |.fK cs,h=>by simp only[AV.view,AV.an]at *;exact nC cs h
 |.undef,h|.gone,h|.bool _,h|.int _ _,h|.str _,h|.eO,h|.U,h|.fG,h|.iw,h|.jF,h|.dj _ _,h|.kV,h|.mu _ _,h|.ptr _ _ _ _,h|.ox _ _ _ _,h|.map _,h|.fn _ _ _,h=>by simpa [AV.view] using h
theorem nC:∀cs:List AV,AV.ah cs=true->AV.ah (AV.cL cs)=true
 |[],_=>rfl
 |c::cs,h=>by
  simp only[AV.ah,Bool.and_eq_true]at h
  simp only[AV.cL,AV.ah,tV c h.1,nC cs h.2,Bool.and_self]
end
theorem aO.yJ{a:AV}{v:Value}(h:aO w G a v)(hs:qq w G w' G')(hn:a.bZ=true):aO w' G' a v:=h.iR hs λb hb=>by rw[eJ b a v hn]at hb;omega
def jZ(sz bX:Nat):j9:=⟨some ⟨0,0,none⟩,0,0,sz,bX+1,false,[]⟩
theorem Fi(sz bX:Nat):og w G (.rows (bX+1) sz []) (jZ sz bX):=
 ⟨rfl,rfl,by simp[bU],by simp,rfl,rfl,rfl,λi r xs h=>by simp at h,.inl ⟨rfl,rfl,rfl⟩⟩
theorem DZ{st:aj}(hI:iH w G st){id bX sz:Nat}{rows:List (List AV)}{loc:j9}(fh:st[id]?=some (.rows bX sz rows))(hl:G.ls[id]?=some loc)(zz:loc.mp=false)(yw:loc.bX=bX) :
  GI w G st (G.at id (jZ sz bX)) (st.set id (.rows (bX+1) sz []))/\∀b,b6 b (G.at id (jZ sz bX)).ls (st.set id (.rows (bX+1) sz []))+gX b loc (.rows bX sz rows)=b6 b G.ls st:=by
 have hs:qq w G w (G.at id (jZ sz bX)):=JG hl (by simp only[jZ];omega) λh=>by
  rcases h with h|h
  ·simp only[jZ]at h;omega
  ·rw[zz]at h;cases h
 have hc:∀b,b6 b (G.at id (jZ sz bX)).ls (st.set id (.rows (bX+1) sz []))+gX b loc (.rows bX sz rows)=b6 b G.ls st:=λb=>by
  have:=tP b G.ls st id loc _ (jZ sz bX) (.rows (bX+1) sz []) hl fh
  have h0:gX b (jZ sz bX) (.rows (bX+1) sz [])=0:=by simp[gX,jZ,j9.jl,fz]
  rw[h0]at this
  exact this
 exact⟨⟨hs,AH hI hs rfl (λ_ _ _ b _ _ _ _=>⟨rfl,rfl⟩) (Fi sz bX) hI.lF,λb=>by have:=hc b;omega,λ_ _=>rfl⟩,hc⟩
def aM.Ap(G:aM)(b:Nat):aM:=⟨G.ls,λb'=>if b'=b then none else G.kR b'⟩
theorem Hl{st:aj}(hI:iH w G st){b:Nat}(hb:G.kR b=some 0)(h0:b6 b G.ls st=0):qq w G w (G.Ap b)/\iH w (G.Ap b) st:=by
 have hs:qq w G w (G.Ap b):=⟨λb' o hi=>⟨rfl,hi.1,λp hp=>by
  simp only[aM.Ap]at hp
  split at hp
  ·cases hp
  ·exact hi.2 p hp⟩,By G⟩
 refine⟨hs,tT hI hs rfl (λb' lN=>⟨?_,rfl⟩) λb' p hp=>?_⟩
 ·simp only[aM.Ap];rw[if_neg];intro e;subst e;omega
 ·simp only[aM.Ap]at hp
  split at hp
  ·cases hp
  ·exact hI.lF b' p hp
theorem Ho{sz b off cap:Nat}{rows:List (List AV)}{vals:List (List Value)}(cm:bU sz rows=true)(iA:∀r∈rows,AV.aK r=true)(iP:∀r∈rows,AV.dH r=true)(nM:∀r∈rows,AV.ah r=true)
  (hlen:vals.length=rows.length)(ack:∀(i:Nat) r xs,rows[i]?=some r->vals[i]?=some xs->cj w G r xs)(fo:rows.length<=cap)(hb:b<w.heap.size)(ht:G.kR b=none)
  (dw:∀(i:Nat) xs (j:Nat) x,vals[i]?=some xs->xs[j]?=some x->w.cell? ⟨b,off+(i*sz+j),none⟩=some x):aO w G (.dj sz rows) (.slice (some ⟨b,off,none⟩) rows.length cap):=by
 have key:∀(i:Nat) r (j:Nat) c,rows[i]?=some r->r[j]?=some c->∃v,w.cell? ⟨b,off+(i*sz+j),none⟩=some v/\aO w G c v:=by
  intro i r j c h1 h2
  have hi:i<vals.length:=by rw[hlen];exact(List.getElem?_eq_some_iff.1 h1).1
  have hv:=List.getElem?_eq_getElem hi
  obtain⟨e1,e2⟩:=ack i r _ h1 hv
  have hj:j<vals[i].length:=by rw[<-e1];exact(List.getElem?_eq_some_iff.1 h2).1
  exact⟨_,dw i _ j _ hv (List.getElem?_eq_getElem hj),e2 j c _ h2 (List.getElem?_eq_getElem hj)⟩
 refine .dj sz rows ⟨b,off,none⟩ cap rfl fo cm iP nM iA (λi r j c h1 h2=>⟨⟨hb,λp hp=>by simp only at hp;rw[ht]at hp;cases hp⟩,?_⟩) λi r j c v h1 h2 h3=>?_
 ·obtain⟨v,h,_⟩:=key i r j c h1 h2;exact⟨v,h⟩
 ·obtain⟨v',h,h'⟩:=key i r j c h1 h2
  rw[h]at h3;cases h3;exact h'
theorem JR{wl:Nat}{st bS:aj}{a a':AV}{v:Value}(hI:iH w G st)(hX:∀b,b6 b G.ls st<=1)(h:aO w G a v)(hf:qm wl a st=some (a',bS)) :
  ∃G',GI w G st G' bS/\aO w G' a' v/\a'.bZ=true/\a'.an=true/\a'.cH=true:=by
 unfold qm at hf
 split at hf
 ·rename_i id bX
  split at hf
  ·rename_i v0 sz rows fh
   split at hf
   ·rename_i hc
    simp only[Bool.and_eq_true,decide_eq_true_eq,Bool.not_eq_true',List.all_eq_true]at hc
    obtain⟨⟨⟨rfl,nM⟩,ku⟩,_⟩:=hc
    cases hf
    obtain⟨loc,hl,zz,yw,gQ⟩:=hI.loc fh
    cases h with
    |mu _ _ _ loc' hp oc Dm he=>
    rw[hl]at oc;cases oc
    have cJ:=he (by omega)
    subst cJ
    rcases gQ.oe with⟨_,qQ,_⟩|⟨b,off,c,e',tg,fo,eS,eH,hlen,gV,dw⟩
    ·subst qQ;simp at ku
    obtain⟨f1,f2⟩:=DZ hI fh hl zz yw
    have ff:loc.jl=some b:=by unfold j9.jl;rw[if_neg (by omega),tg];rfl
    have h0:b6 b (G.at id (jZ sz v0)).ls (st.set id (.rows (v0+1) sz []))=0:=by
     have h1:=f2 b
     have h2:=hX b
     simp only[gX,ff,if_true]at h1
     omega
    obtain⟨g1,g2⟩:=Hl f1.inv (b:=b) (by exact gV) h0
    refine⟨(G.at id (jZ sz v0)).Ap b,⟨f1.iR.trans g1,g2,f1.fj,λb' lN=>?_⟩,?_,by simp[AV.bZ],by simp[AV.an],by simp[AV.cH]⟩
    ·simp only[aM.Ap,aM.at]
     rw[if_neg]
     intro e;subst e
     have h1:=f2 b'
     simp only[gX,ff,if_true]at h1
     omega
    ·rw[tg,gQ.len,show rows.length=(rows.map AV.cL).length by simp]
     refine Ho (vals:=loc.vals) (cn.2 λr hr=>?_) (λr hr=>?_) (λr hr=>?_) (λr hr=>?_) (by simpa using gQ.qO) (λi r xs h1 h2=>?_) (by simpa using hlen) (Array.getElem?_eq_some_iff.1 eS).1 (by simp[aM.Ap]) dw
     ·obtain⟨r',vM,rfl⟩:=List.mem_map.1 hr
      rw[me];exact cn.1 gQ.Dp r' vM
     ·obtain⟨r',vM,rfl⟩:=List.mem_map.1 hr
      rw[pK];exact gQ.AE r' vM
     ·obtain⟨r',vM,rfl⟩:=List.mem_map.1 hr
      exact fR r'
     ·obtain⟨r',vM,rfl⟩:=List.mem_map.1 hr
      exact nC r' (nM r' vM)
     ·simp only[List.getElem?_map,Option.map_eq_some_iff]at h1
      obtain⟨r',h1,rfl⟩:=h1
      refine(gQ.rm i r' xs h1 h2).view.mono (f1.iR.trans g1) λb' lN=>?_
      rw[dn b' _ _ (fR r')]at lN;omega
   ·cases hf
  ·cases hf
 ·split at hf
  ·rename_i hc
   simp only[Bool.and_eq_true]at hc
   cases hf
   exact⟨G,GI.refl hI,h.view,rR a,tV a hc.1,by rw[zF];exact hc.2⟩
  ·cases hf
theorem BI{wl:Nat}:∀{l l':List AV}{xs:List Value}{G:aM}{st bS:aj},iH w G st->(∀b,bV b l xs+b6 b G.ls st<=1)->cj w G l xs->kI wl l st=some (l',bS)->
  ∃G',GI w G st G' bS/\cj w G' l' xs/\AV.dH l'=true/\AV.ah l'=true/\AV.aK l'=true
 |[],l',xs,G,st,bS,hI,hX,h,hf=>by
  simp only[kI,Option.some.injEq,Prod.mk.injEq]at hf
  obtain⟨rfl,rfl⟩:=hf
  exact⟨G,GI.refl hI,h,rfl,rfl,rfl⟩
 |a::l,l',xs,G,st,bS,hI,hX,h,hf=>by
  simp only[kI]at hf
  split at hf
  ·rename_i a1 lM h1
   split at hf
   ·rename_i l2 lZ h2
    cases hf
    cases xs with
    |nil=>have:=h.1;simp at this
    |cons x xs=>
    obtain⟨G1,f1,f2,f3,f4,f5⟩:=JR hI (λb=>by have:=hX b;omega) (h.2 0 a x rfl rfl) h1
    have Pe:cj w G l xs:=⟨by simpa using h.1,λi c v e1 e2=>h.2 (i+1) c v (by simpa using e1) (by simpa using e2)⟩
    have hX1:∀b,bV b l xs+b6 b G1.ls lM<=1:=λb=>by
     have e1:=hX b
     have e2:=f1.fj b
     simp only[bV]at e1
     omega
    obtain⟨G2,g1,g2,g3,g4,g5⟩:=BI f1.inv hX1 (Pe.mono f1.iR λb hb=>⟨f1.tQ b (by have:=hX b;simp only[bV]at this;omega),rfl⟩) h2
    refine⟨G2,f1.trans g1,⟨by simp[g2.1],λi c v e1 e2=>?_⟩,by simp[AV.dH,f3,g3],by simp[AV.ah,f4,g4],?_⟩
    ·cases i with
     |zero=>simp at e1 e2;subst e1;subst e2;exact f2.yJ g1.iR f3
     |succ i=>exact g2.2 i c v (by simpa using e1) (by simpa using e2)
    ·simp only[AV.aK,List.all_cons,Bool.and_eq_true]at g5 ⊢
     exact⟨f5,g5⟩
   ·cases hf
  ·cases hf
theorem tW{wl:Nat}:∀{l l':List AV}{st bS:aj},kI wl l st=some (l',bS)->l'.length=l.length
 |[],l',st,bS,hf=>by simp only[kI,Option.some.injEq,Prod.mk.injEq]at hf;obtain⟨rfl,_⟩:=hf;rfl
 |a::l,l',st,bS,hf=>by
  simp only[kI]at hf
  split at hf
  ·split at hf
   ·rename_i h2;cases hf;simp[tW h2]
   ·cases hf
  ·cases hf
theorem zH{wl:Nat}:∀{l l':List (List AV)}{xs:List (List Value)}{G:aM}{st bS:aj},iH w G st->(∀b,fz b l xs+b6 b G.ls st<=1)->l.length=xs.length->(∀(i:Nat) r x,l[i]?=some r->xs[i]?=some x->cj w G r x)->lf wl l st=some (l',bS)->
  ∃G',GI w G st G' bS/\l'.length=l.length/\(∀(i:Nat) r x,l'[i]?=some r->xs[i]?=some x->cj w G' r x)/\(∀(i:Nat) r r',l[i]?=some r->l'[i]?=some r'->r'.length=r.length)/\(∀r∈l',AV.dH r=true)/\(∀r∈l',AV.ah r=true)/\(∀r∈l',AV.aK r=true)
 |[],l',xs,G,st,bS,hI,hX,hl,h,hf=>by
  simp only[lf,Option.some.injEq,Prod.mk.injEq]at hf
  obtain⟨rfl,rfl⟩:=hf
  exact⟨G,GI.refl hI,rfl,h,λi r r' e=>by simp at e,by simp,by simp,by simp⟩
 |a::l,l',xs,G,st,bS,hI,hX,hl,h,hf=>by
  simp only[lf]at hf
  split at hf
  ·rename_i a1 lM h1
   split at hf
   ·rename_i l2 lZ h2
    cases hf
    cases xs with
    |nil=>simp at hl
    |cons x xs=>
    obtain⟨G1,f1,f2,f3,f4,f5⟩:=BI hI (λb=>by have:=hX b;simp only[fz]at this;omega) (h 0 a x rfl rfl) h1
    have hX1:∀b,fz b l xs+b6 b G1.ls lM<=1:=λb=>by
     have e1:=hX b
     have e2:=f1.fj b
     simp only[fz]at e1
     omega
    obtain⟨G2,g1,g2,g3,g4,g5,g6,g7⟩:=zH f1.inv hX1 (by simpa using hl) (λi r y e1 e2=>(h (i+1) r y (by simpa using e1) (by simpa using e2)).mono f1.iR λb hb=>⟨f1.tQ b (by
     have e3:=hX b
     have e4:=uU b l xs i r y e1 e2
     simp only[fz]at e3;omega),rfl⟩) h2
    refine⟨G2,f1.trans g1,by simp[g2],λi r y e1 e2=>?_,λi r r' e1 e2=>?_,λr hr=>?_,λr hr=>?_,λr hr=>?_⟩
    ·cases i with
     |zero=>simp at e1 e2;subst e1;subst e2;exact f2.mono g1.iR λb hb=>by rw[dn b _ _ f3]at hb;omega
     |succ i=>exact g3 i r y (by simpa using e1) (by simpa using e2)
    ·cases i with
     |zero=>simp at e1 e2;subst e1;subst e2;exact tW h1
     |succ i=>exact g4 i r r' (by simpa using e1) (by simpa using e2)
    ·rcases List.mem_cons.1 hr with rfl|hr
     ·exact f3
     ·exact g5 r hr
    ·rcases List.mem_cons.1 hr with rfl|hr
     ·exact f4
     ·exact g6 r hr
    ·rcases List.mem_cons.1 hr with rfl|hr
     ·exact f5
     ·exact g7 r hr
   ·cases hf
  ·cases hf
theorem wJ{wl:Nat}{st bS:aj}{a a':AV}{v:Value}(hI:iH w G st)(hX:∀b,b6 b G.ls st<=1)(h:aO w G a v)(hf:jL wl a st=some (a',bS)) :
  ∃G',GI w G st G' bS/\aO w G' a' v/\a'.bZ=true:=by
 unfold jL at hf
 split at hf
 ·rename_i id bX
  split at hf
  ·rename_i v0 sz rows fh
   split at hf
   ·rename_i hc
    simp only[Bool.and_eq_true,decide_eq_true_eq,Bool.not_eq_true']at hc
    obtain⟨⟨rfl,ku⟩,_⟩:=hc
    split at hf
    ·rename_i dN lM GH
     cases hf
     obtain⟨loc,hl,zz,yw,gQ⟩:=hI.loc fh
     cases h with
     |mu _ _ _ loc' hp oc Dm he=>
     rw[hl]at oc;cases oc
     have cJ:=he (by omega)
     subst cJ
     rcases gQ.oe with⟨_,qQ,_⟩|⟨b,off,c,e',tg,fo,eS,eH,hlen,gV,dw⟩
     ·subst qQ;simp at ku
     obtain⟨f1,f2⟩:=DZ hI fh hl zz yw
     have ff:loc.jl=some b:=by unfold j9.jl;rw[if_neg (by omega),tg];rfl
     have hX1:∀b',fz b' rows loc.vals+b6 b' (G.at id (jZ sz v0)).ls (st.set id (.rows (v0+1) sz []))<=1:=λb'=>by
      have h1:=f2 b'
      have h2:=hX b'
      simp only[gX]at h1
      omega
     obtain⟨G2,g1,g2,g3,g4,g5,g6,g7⟩:=zH f1.inv hX1 gQ.qO.symm (λi r y e1 e2=>(gQ.rm i r y e1 e2).mono f1.iR λb _=>⟨rfl,rfl⟩) GH
     have h0:b6 b (G.at id (jZ sz v0)).ls (st.set id (.rows (v0+1) sz []))=0:=by
      have h1:=f2 b
      have h2:=hX b
      simp only[gX,ff,if_true]at h1
      omega
     have ht2:G2.kR b=some 0:=(g1.tQ b h0).trans gV
     obtain⟨k1,k2⟩:=Hl g1.inv ht2 (by have:=g1.fj b;omega)
     refine⟨G2.Ap b,⟨(f1.iR.trans g1.iR).trans k1,k2,λb'=>Nat.le_trans (g1.fj b') (f1.fj b'),λb' lN=>?_⟩,?_,by simp[AV.bZ]⟩
     ·have hbb:b'≠b:=by
       intro e;subst e
       have h1:=f2 b'
       simp only[gX,ff,if_true]at h1
       omega
      simp only[aM.Ap]
      rw[if_neg hbb]
      exact g1.tQ b' (by have:=f1.fj b';omega)
     ·rw[tg,gQ.len,<-g2]
      refine Ho (vals:=loc.vals) (cn.2 λr hr=>?_) g7 g5 g6 (by rw[gQ.qO,g2]) (λi r xs h1 h2=>(g3 i r xs h1 h2).mono k1 λb' lN=>by rw[dn b' _ _ (g5 r (cU h1))]at lN;omega) (by rw[g2];exact hlen) (Array.getElem?_eq_some_iff.1 eS).1 (by simp[aM.Ap]) dw
      obtain⟨i,hi,rfl⟩:=List.mem_iff_getElem.1 hr
      have oT:i<rows.length:=by rw[<-g2];exact hi
      rw[g4 i rows[i] dN[i] (List.getElem?_eq_getElem oT) (List.getElem?_eq_getElem hi)]
      exact cn.1 gQ.Dp _ (List.getElem_mem oT)
    ·cases hf
   ·cases hf
  ·cases hf
 ·cases hf
  cases h
  exact⟨G,GI.refl hI,.U,rfl⟩
 ·cases hf
end Ax
namespace Ax
open Go
variable {P:Program}{w w':World}{G G':aM}{β gf:List lE}{ρ:Operand->Value}{o:Oper}
theorem xm{sz:Nat}{α:Type}:∀(n:Nat)(rows:List (List α)),(∀r∈rows,r.length=sz)->rows.flatten.drop (n*sz)=(rows.drop n).flatten
 |0,rows,_=>by simp
 |n+1,[],_=>by simp
 |n+1,r::rows,h=>by
  have h0:r.length=sz:=h r (by simp)
  have ih:=xm n rows λx hx=>h x (by simp[hx])
  rw[List.drop_succ_cons,List.flatten_cons,<-ih,Nat.succ_mul,Nat.add_comm,<-List.drop_drop,<-h0,List.drop_left]
theorem XM{t tx ty e:TypeId}{sz:Nat}(ht:P.underlying t=some (.slice e))(eH:cx P e sz=true)(hk:(∃e',P.underlying tx=some (.slice e'))\/P.underlying tx=some .string)
  {st:aj}{bx:aU}(hI:iH w G st)(hB:jD w G β bx){cO:Nat->Nat}(hX:∀b,cO b+fM b β bx+b6 b G.ls st<=1)
  {s x:AV} {vs vx:Value} (hs:aO w G s vs) (hx:aO w G x vx) {wl aa:Nat} {bS:aj} {fm:aU} {r:eG} (ha:aL wl aa (.copy sz) [.val s,.val x] st bx=some (r,bS,fm)) :
  ∃v w' G',(Builtin.copy_ #[t,tx] ty #[vs,vx]).run P w=.ok v w'/\iU w G β st bx cO w' G' β bS fm r v:=by
 obtain⟨i,hi,eH⟩:∃i,P.info? e=some i/\i.size=sz:=by
  unfold cx at eH
  split at eH
  ·rename_i i hi;exact⟨i,hi,by simpa using eH⟩
  ·cases eH
 unfold aL at ha
 simp only at ha
 split at ha
 ·rename_i id bX x2 heq
  simp only[List.cons.injEq,eG.val.injEq,and_true]at heq
  obtain⟨rfl,rfl⟩:=heq
  split at ha
  ·rename_i v jf old new fh ry
   split at ha
   ·rename_i hc
    simp only[Bool.and_eq_true,decide_eq_true_eq]at hc
    obtain⟨⟨⟨⟨⟨rfl,rfl⟩,cm⟩,hle⟩,_⟩,_⟩:=hc
    cases ha
    obtain⟨news,dy,mP,iA,iP,_⟩:=uV hI hx ry cm hk
    have Fa:∀b xs,bV b new.flatten xs=0:=λb xs=>dn b _ _ ((cy _).2 λx hx=>by
     obtain⟨r,hr,hx⟩:=List.mem_flatten.1 hx
     exact(cy r).1 (iP r hr) x hx)
    obtain⟨loc,hl,zz,yw,gQ⟩:=hI.loc fh
    cases hs with
    |mu _ _ _ loc' hp oc Dm he=>
    rw[hl]at oc;cases oc
    have cJ:=he (by omega)
    subst cJ
    obtain⟨GH,TR,hfv,Fe⟩:=gQ.flat
    have hfo:=cn.1 gQ.Dp
    have Oo:loc.vals.flatten.length=old.length*jf:=by rw[<-GH.1];exact eX old hfo
    have Oq:news.length=new.length*jf:=mP.newsLen
    have XN:Nat.min new.length loc.len=new.length:=by rw[gQ.len];exact Nat.min_eq_left hle
    by_cases ku:new=[]
    ·subst ku
     have h0:news=[]:=List.eq_nil_of_length_eq_zero (by simpa using Oq)
     subst h0
     refine⟨.int .i64 0,w,G,?_,?_⟩
     ·have h1:=mP.len
      have h2:=mP.cells
      simp only[List.length_nil]at h1 h2 XN
      cases tg:loc.a<;>simp[Builtin.copy_,run_underlying ht,Go.sizeOf,typeInfo,hi,eH,h1,h2,XN,storeCells,goInt]
     ·have:st.set id (.rows v jf ([]++old.drop 0))=st:=gv st id _ (by simpa using fh)
      simp only[List.length_nil]at this ⊢
      rw[this]
      exact iU.lO hI hB (.int _ _) λb=>by simp[cv,fj]
    ·have hn:0<new.length:=List.length_pos_iff.2 ku
     rcases gQ.oe with⟨h0,h1,_⟩|⟨b,off,c,e',tg,fo,eS,ag5,hlen,gV,dw⟩
     ·rw[h1]at hle;simp at hle;exact absurd hle ku
     have JP:off+news.length<=c.size:=by
      rw[Oq]
      have:new.length*jf<=loc.cap*jf:=Nat.mul_le_mul_right _ (by omega)
      omega
     have An:=gu (P:=P) b off e' news c w eS JP mP.one
     have e1:(Builtin.copy_ #[t,tx] ty #[.slice loc.a loc.len loc.cap,vx]).run P w=.ok (.int .i64 new.length) (w.setRow b (af c.toList off news).toArray):=by
      have h1:=mP.len
      have h2:=mP.cells
      simp[Builtin.copy_,run_underlying ht,Go.sizeOf,typeInfo,hi,eH,h1,h2,XN,tg,An,goInt]
     have ji:=tU cm (b:=old.drop new.length) (by rw[cn];exact λr hr=>hfo r (List.mem_of_mem_drop hr))
     have Wp:(new++old.drop new.length).length=old.length:=by simp;omega
     have qy:(new++old.drop new.length).flatten=new.flatten++old.flatten.drop (new.length*jf):=by rw[List.flatten_append,xm _ _ hfo]
     let DA:j9:=⟨some ⟨b,off,none⟩,loc.cap,(new++old.drop new.length).length,jf,v,false,pH jf (new++old.drop new.length).length (news++loc.vals.flatten.drop (new.length*jf))⟩
     have Dw:∀(i:Nat) l,G.ls[i]?=some l->∃TY,(G.at id DA).ls[i]?=some TY/\l.bX<=TY.bX/\(l.bX=TY.bX\/l.mp=true->TY.hd=l.hd):=
      Bz hl (by simp only[DA];omega) λ_=>by simp only[DA,j9.hd,tg,Wp,gQ.len,gQ.size,zz]
     have S7:(G.at id DA).ls[id]?=some DA:=by
      simp only[aM.at];rw[List.getElem?_set,if_pos rfl,if_pos (List.getElem?_eq_some_iff.1 hl).1]
     have hW:Wr w G (w.setRow b (af c.toList off news).toArray) ⟨(G.at id DA).ls,λb'=>if b'=b then some 0 else G.kR b'⟩ b:=
      BA eS JP gV (Nat.zero_le _) (Nat.le_refl _) Dw
     have ff:loc.jl=some b:=by unfold j9.jl;rw[if_neg (by omega),tg];rfl
     refine⟨_,_,⟨(G.at id DA).ls,λb'=>if b'=b then some 0 else G.kR b'⟩,e1,?_⟩
     refine qz hI hB hX hl fh hW.iR rfl ⟨rfl,rfl,mq (b:=b) (off:=off) (c:=(af c.toList off news).toArray) (e:=e') (xs:=news++loc.vals.flatten.drop (new.length*jf)) ji (nB iA λr hr=>gQ.AE r (List.mem_of_mem_drop hr)) ?_ rfl rfl rfl rfl fo (setRow_heap w b c _ e' (0,0) eS) (by rw[List.size_toArray,dx];simpa using ag5) (by rw[Wp];exact hlen) (by simp) λk x hk=>?_⟩
      (hW.lF hI) (λb' _ lN=>hW.iT λe=>lN (by rw[ff,e])) (by simp) rfl rfl (.int _ _) λb'=>?_
     ·rw[qy]
      refine(dy.mono hW.iR λb' lN=>by rw[Fa]at lN;omega).append ((GH.drop _).mono hW.iR λb' lN=>hW.iT λe=>?_)
      subst e
      have h3:=uR b' (new.length*jf) _ _ GH.1
      rw[TR]at h3
      have h1:=hX b'
      have h2:=mm b' G.ls st id loc _ hl fh
      simp only[gX,ff,if_true]at h2
      omega
     ·rw[qx eS JP]
      by_cases G9:k<news.length
      ·rw[List.getElem?_append_left G9]at hk
       rw[if_pos (by omega),show off+k-off=k by omega]
       exact hk
      ·rw[List.getElem?_append_right (by omega),List.getElem?_drop]at hk
       rw[if_neg (by omega)]
       have:=Fe b off dw _ x hk
       rw[show new.length*jf+(k-news.length)=k by omega]at this
       exact this
     ·have He:DA.jl=loc.jl:=by
       rw[ff];simp only[DA];unfold j9.jl;rw[if_neg (show ¬loc.cap=0 by omega)];rfl
      simp only[cv,fj,gX]
      rw[He]
      simp only[DA]
      rw[pI b' (new++old.drop new.length) _ (cn.1 ji) (by rw[qy,List.length_append,List.length_append,dy.1,List.length_drop,List.length_drop,GH.1]),qy,fy b' _ _ _ _ dy.1,Fa]
      have:=uR b' (new.length*jf) _ _ GH.1
      rw[TR]at this
      omega
   ·cases ha
  ·cases ha
 ·cases ha
theorem xq:∀{rows:List (List AV)}{l:List UInt8},qj rows=some l->rows=eI l
 |[],l,h=>by simp[qj]at h;subst h;rfl
 |r::rows,l,h=>by
  unfold qj at h
  split at h
  ·rename_i heq;cases heq
  ·rename_i n r' heq
   simp only[List.cons.injEq]at heq
   obtain⟨rfl,rfl⟩:=heq
   split at h
   ·rename_i hn
    split at h
    ·rename_i l' oc
     cases h
     have:=xq oc
     subst this
     have h2:(((UInt8.ofNat n.toNat).toNat:Nat):Int)=n:=by
      rw[UInt8.toNat_ofNat']
      omega
     show _=[AV.int .u8 (((UInt8.ofNat n.toNat).toNat:Nat):Int)]::eI l'
     rw[h2]
    ·cases h
   ·cases h
  ·cases h
theorem foldl_push(l:List UInt8):∀acc:ByteArray,List.foldl (λb a=>b.push a) acc l=⟨(acc.data.toList++l).toArray⟩:=by
 induction l with
 |nil=>intro acc;simp
 |cons b l ih=>
  intro acc
  rw[List.foldl_cons,ih]
  simp
theorem T4{s d e:TypeId}{x:Operand}(ho:o.op=.convert s d x)(hs:P.underlying s=some (.slice e))(he:P.underlying e=some (.int .u8))(hd:P.underlying d=some .string){st:aj}(hI:iH w G st)
  {a:AV}(ha:aO w G a (ρ x)){rows:List (List AV)}(hr:eC st a=some rows){l:List UInt8}(hl:qj rows=some l):∃u,(execOp ρ o).run P w=.ok (.value u) w/\aO w G (.str l) u:=by
 have xu:=xq hl
 subst xu
 have cm:bU 1 (eI l)=true:=by simp[bU,eI]
 have hb:dG st a=some (eI l):=by
  unfold dG
  split
  ·simp[eC]at hr
  ·rw[hr]
   simp only[Option.some.injEq,eI,List.map_map]
   exact List.map_congr_left λ_ _=>rfl
  ·exact hr
 obtain⟨xs,dy,mP,_,_,_⟩:=uV hI ha hb cm (P:=P) (tx:=s) (.inl ⟨e,hs⟩)
 have Wq:xs=l.map λb=>Value.int .u8 b.toNat:=by
  have GH:(eI l).flatten=l.map λb=>AV.int .u8 b.toNat:=DW l
  rw[GH]at dy
  apply List.ext_getElem?
  intro i
  rw[List.getElem?_map]
  cases hi:l[i]? with
  |none=>
   have:xs.length<=i:=by rw[<-dy.1];simpa using hi
   simpa using this
  |some b=>
   have h1:(l.map λb=>AV.int .u8 b.toNat)[i]?=some (.int .u8 b.toNat):=by rw[List.getElem?_map,hi];rfl
   have h2:i<xs.length:=by rw[<-dy.1];exact(List.getElem?_eq_some_iff.1 h1).1
   have h3:=dy.2 i _ _ h1 (List.getElem?_eq_getElem h2)
   rw[List.getElem?_eq_getElem h2,h3.fD]
   rfl
 subst Wq
 have hlen:(eI l).length=l.length:=by simp[eI]
 rw[hlen]at mP
 have dV:(∃n c,ρ x=.slice none n c/\l=[])\/∃ad c,ρ x=.slice (some ad) l.length c:=by
  have h1:=mP.len w
  have h2:=mP.cells
  generalize ρ x=v at *
  cases a with
  |U=>cases ha;exact .inl ⟨_,_,rfl,by simp[eC,eI]at hr;exact hr⟩
  |kV=>cases ha;exact .inr ⟨_,_,by simp[eC,eI]at hr;subst hr;rfl⟩
  |dj s' r'=>cases ha;simp[eC]at hr;subst hr;rw[hlen];exact .inr ⟨_,_,rfl⟩
  |je s' r'=>cases ha;simp[eC]at hr;subst hr;rw[hlen];exact .inr ⟨_,_,rfl⟩
  |mu id bX=>
   cases ha with
   |mu _ _ _ loc hp BE hv he2=>
    obtain⟨p,n,c,rfl⟩:=hp
    simp[Builtin.lenOf]at h1
    subst h1
    cases p with
    |some p=>exact .inr ⟨_,_,rfl⟩
    |none=>
     simp[Builtin.firstCells]at h2
     exact .inl ⟨_,_,rfl,h2⟩
  |_=>simp[eC]at hr
 refine⟨.string ⟨l.toArray⟩,?_,.str _ _ (by simp)⟩
 rcases dV with⟨n,c,h1,rfl⟩|⟨ad,c,h1⟩
 ·simp[execOp,ho,convert,run_underlying hs,run_underlying hd,run_underlying he,h1,Conv.bytesToString]
  rfl
 ·have h2:=mP.cells
  rw[h1]at h2
  simp only[Builtin.firstCells,Nat.mul_one]at h2
  simp only[execOp,ho,convert,h1]
  simp[run_underlying hs,run_underlying hd,run_underlying he,Conv.bytesToString,h2,foldl_push]
end Ax
namespace Ax
open Go
variable {P:Program}{w w':World}{G G':aM}{β gf:List lE}{ρ:Operand->Value}{o:Oper}
theorem MX{α:Type}(r:List α)(k:Nat)(v:α)(h:k<r.length):af r k [v]=r.set k v:=by
 rw[jn _ _ _ (by simp;omega)]
 rw[List.set_eq_take_append_cons_drop,if_pos h]
 simp
theorem Hp(b:Nat):∀(r:List AV)(xs:List Value)(k:Nat)(v v':AV)(x:Value),r[k]?=some v->xs[k]?=some x->bV b (r.set k v') xs+fj b v x=bV b r xs+fj b v' x
 |[],_,_,_,_,_,h,_=>by simp at h
 |_::_,[],_,_,_,_,_,h=>by simp at h
 |r::rs,x::xs,0,v,v',x',h,k=>by simp at h k;subst h;subst k;simp only[List.set_cons_zero,bV];omega
 |r::rs,x::xs,i+1,v,v',x',h,k=>by
  have:=Hp b rs xs i v v' x' (by simpa using h) (by simpa using k)
  simp only[List.set_cons_succ,bV];omega
theorem Hq(G:aM)(ls:List j9):qq w G w ⟨G.ls++ls,G.kR⟩ where
 ON:=λ_ _ h=>⟨rfl,h⟩
 Lb:=λid loc hl=>⟨loc,by
  rw[List.getElem?_append_left (List.getElem?_eq_some_iff.1 hl).1];exact hl,Nat.le_refl _,λ_=>rfl⟩
theorem T5{st:aj}{loc:j9}{ob:fL}(hI:iH w G st)(h:og w ⟨G.ls++[loc],G.kR⟩ ob loc):iH w ⟨G.ls++[loc],G.kR⟩ (st++[ob]) where
 len:=by simp[hI.len]
 lF:=hI.lF
 bC:=λid GG l h1 h2=>by
  simp only at h2
  by_cases Jm:id<st.length
  ·rw[List.getElem?_append_left Jm]at h1
   rw[List.getElem?_append_left (by rw[hI.len];exact Jm)]at h2
   exact(hI.bC id GG l h1 h2).iR (Hq G _) λb _=>⟨rfl,rfl⟩
  ·rw[List.getElem?_append_right (by omega)]at h1
   rw[List.getElem?_append_right (by rw[hI.len];omega),hI.len]at h2
   by_cases he:id-st.length=0
   ·rw[he]at h1 h2
    simp at h1 h2
    subst h1;subst h2;exact h
   ·obtain⟨n,hn⟩:∃n,id-st.length=n+1:=⟨id-st.length-1,by omega⟩
    rw[hn]at h1;simp at h1
def rX(w:World)(a:Addr)(sz:Nat)(rows:List (List AV)):List (List Value):=
 rows.mapIdx λi r=>r.mapIdx λj _=>(w.cell? ⟨a.block,a.off+(i*sz+j),none⟩).getD Go.undef
theorem T6{st:aj}{id ve i k k2 sz jf:Nat}{rows dN:List (List AV)}{r:List AV}{u:Value}(hI:iH w G st)(hp:aO w G (.ptr id ve i k) u)
  (fh:st[id]?=some (.rows ve sz rows))(dg:rows[i]?=some r)(hv:r[k2]?=some (.raw jf dN)) :
  ∃G',GI w G st G' ((st++[fL.rows 0 jf dN]).set id (.rows ve sz (rows.set i (af r k2 [.mu st.length 0])))):=by
 obtain⟨loc,b,o,c,e,xs,hl,zz,yw,gQ,Hf,tg,fo,ff,eS,hle,hlen,gV,JK,kT,dw⟩:=xk hI hp fh dg
 have We:k2<r.length:=(List.getElem?_eq_some_iff.1 hv).1
 obtain⟨x,hx⟩:∃x,xs[k2]?=some x:=⟨_,List.getElem?_eq_getElem (by rw[<-kT.1];exact We)⟩
 have dy:=kT.2 _ _ _ hv hx
 cases dy with
 |raw _ _ a cap oG Ws cm iP nM uK hc hr ht hb=>
 obtain⟨cc,ce,Ot,T7⟩:=hb
 have key:∀(i:Nat) r (j:Nat) c,dN[i]?=some r->r[j]?=some c->∃v,(rX w a jf dN)[i]?.bind (·[j]?)=some v/\w.cell? ⟨a.block,a.off+(i*jf+j),none⟩=some v:=by
  intro i r j c h1 h2
  obtain⟨v,hv⟩:=hc i r j c h1 h2
  exact⟨v,by simp[rX,h1,h2,hv],hv⟩
 have TE:∀(i:Nat) xs (j:Nat) x,(rX w a jf dN)[i]?=some xs->xs[j]?=some x->w.cell? ⟨a.block,a.off+(i*jf+j),none⟩=some x:=by
  intro i xs j x h1 h2
  simp only[rX,List.getElem?_mapIdx,Option.map_eq_some_iff]at h1
  obtain⟨r,h3,rfl⟩:=h1
  simp only[List.getElem?_mapIdx,Option.map_eq_some_iff]at h2
  obtain⟨c,h4,rfl⟩:=h2
  obtain⟨v,hv⟩:=hc i r j c h3 h4
  rw[hv];rfl
 have aco:(some a:Option Addr)=some ⟨a.block,a.off,none⟩:=by rw[<-oG]
 let loc':j9:=⟨some a,cap,dN.length,jf,0,false,rX w a jf dN⟩
 let G':aM:=⟨G.ls++[loc'],G.kR⟩
 have T8:qq w G w G':=Hq G _
 have hO:og w G' (.rows 0 jf dN) loc':=by
  refine⟨rfl,rfl,cm,uK,rfl,rfl,by simp[loc',rX],λi r xs h1 h2=>⟨?_,λj c v h3 h4=>?_⟩,?_⟩
  ·simp only[loc',rX,List.getElem?_mapIdx,h1,Option.map_some,Option.some.injEq]at h2
   subst h2;simp
  ·have h5:=TE i xs j v h2 h4
   exact(hr i r j c v h1 h3 h5).yJ T8 ((cy r).1 (iP r (cU h1)) c (cU h3))
  ·rcases Nat.eq_zero_or_pos cap with h0|h0
   ·refine .inl ⟨h0,?_,rfl⟩
    cases dN with
    |nil=>rfl
    |cons _ _=>simp at Ws;omega
   ·exact .inr ⟨a.block,a.off,cc,ce,aco,h0,Ot,T7,Ws,ht,TE⟩
 have hI1:iH w G' (st++[fL.rows 0 jf dN]):=T5 hI hO
 have Jm:id<st.length:=(List.getElem?_eq_some_iff.1 fh).1
 have An:(st++[fL.rows 0 jf dN])[id]?=some (.rows ve sz rows):=by rw[List.getElem?_append_left Jm];exact fh
 have Ou:G'.ls[id]?=some loc:=by
  show (G.ls++[loc'])[id]?=_
  rw[List.getElem?_append_left (by rw[hI.len];exact Jm)];exact hl
 have hmu:aO w G' (.mu st.length 0) (.slice (some a) dN.length cap):=by
  refine .mu _ _ _ loc' ⟨_,_,_,rfl⟩ ?_ (Nat.le_refl _) λ_=>rfl
  show (G.ls++[loc'])[st.length]?=_
  rw[List.getElem?_append_right (by rw[hI.len];exact Nat.le_refl _),hI.len]
  simp
 have JS:af r k2 [AV.mu st.length 0]=r.set k2 (.mu st.length 0):=MX r k2 _ We
 have Pf:cj w G' r xs:=⟨kT.1,λj c v h1 h2=>(kT.2 j c v h1 h2).iR T8 λ_ _=>⟨rfl,rfl⟩⟩
 have ry:og w G' (.rows ve sz (rows.set i (af r k2 [.mu st.length 0]))) loc:=by
  rw[JS]
  refine⟨zz,yw,cn.2 λr' vM=>?_,λr' vM=>?_,by simp[gQ.len],gQ.size,by simp[gQ.qO],λi' r' Jo h1 h2=>?_,.inr ⟨b,o,c,e,tg,fo,eS,hle,by simpa using hlen,gV,dw⟩⟩
  ·rcases List.mem_or_eq_of_mem_set vM with h|h
   ·exact cn.1 gQ.Dp r' h
   ·rw[h,List.length_set];exact cn.1 gQ.Dp r (cU dg)
  ·rcases List.mem_or_eq_of_mem_set vM with h|h
   ·exact gQ.AE r' h
   ·rw[h,<-JS];exact jo (gQ.AE r (cU dg)) (by simp[AV.aK,AV.cH]) (by simp;omega)
  ·rw[List.getElem?_set]at h1
   by_cases JM:i=i'
   ·subst JM
    rw[if_pos rfl]at h1
    split at h1
    ·cases h1
     rw[JK]at h2;cases h2
     refine⟨by rw[List.length_set];exact kT.1,λj c v h3 h4=>?_⟩
     rw[List.getElem?_set]at h3
     by_cases XO:k2=j
     ·subst XO
      rw[if_pos rfl,if_pos We]at h3
      cases h3
      rw[hx]at h4;cases h4
      exact hmu
     ·rw[if_neg XO]at h3
      exact Pf.2 j c v h3 h4
    ·cases h1
   ·rw[if_neg JM]at h1
    have h3:=gQ.rm i' r' Jo h1 h2
    exact⟨h3.1,λj c v h4 h5=>(h3.2 j c v h4 h5).iR T8 λ_ _=>⟨rfl,rfl⟩⟩
 refine⟨G',T8,AH hI1 (qq.refl w G') (gv _ _ _ Ou).symm (λ_ _ _ _ _ _ _ _=>⟨rfl,rfl⟩) ry hI1.lF,λb'=>?_,λ_ _=>rfl⟩
 have h1:=tP b' G'.ls (st++[fL.rows 0 jf dN]) id loc _ loc (.rows ve sz (rows.set i (af r k2 [.mu st.length 0]))) Ou An
 rw[gv _ _ _ Ou]at h1
 have h4:=rq b' rows loc.vals i r xs (af r k2 [.mu st.length 0]) xs dg JK
 rw[gv _ _ _ JK]at h4
 have h5:=Hp b' r xs k2 _ (.mu st.length 0) _ hv hx
 rw[<-JS]at h5
 have h6:b6 b' G'.ls (st++[fL.rows 0 jf dN])=b6 b' G.ls st+b6 b' [loc'] [fL.rows 0 jf dN]:=qt b' _ _ _ _ hI.len
 have h7:b6 b' [loc'] [fL.rows 0 jf dN]<=fj b' (.raw jf dN) (.slice (some a) dN.length cap):=by
  simp only[b6,gX,fj,zC b' dN _ iP,loc',j9.jl,Nat.add_zero]
  by_cases yH:cap=0
  ·simp[yH]
  ·simp[yH]
 have h8:fj b' (.mu st.length 0) (.slice (some a) dN.length cap)=0:=by simp[fj]
 simp only[gX]at h1
 omega
end Ax
namespace Ax
open Go
variable {P:Program}{w w':World}{G G':aM}{β gf:List lE}{ρ:Operand->Value}{o:Oper}
def iV(P:Program)(ρ:Operand->Value)(o:Oper)(w:World)(G:aM)(β:List lE)(st:aj)(bx:aU)(cO:Nat->Nat)(nb:Option Nat)(r:eG)(bS:aj)(fm:aU):Prop:=
 ∃n v w' G' gf,(execOp ρ o).run P w=.ok n w'/\(n=.value v\/n=.skip/\v=undef)/\iU w G β st bx cO w' G' gf bS fm r v/\eK nb β gf
theorem iV.lO{st:aj}{bx:aU}{cO:Nat->Nat}{nb:Option Nat}{r:eG}(hI:iH w G st)(hB:jD w G β bx){u:Value}(h:(execOp ρ o).run P w=.ok (.value u) w)(hr:jQ w G β r u)(hc:∀b,cv b r u<=cO b):iV P ρ o w G β st bx cO nb r st bx:=
 ⟨_,u,w,G,β,h,.inl rfl,iU.lO hI hB hr hc,eK.refl _ _⟩
theorem iV.bZ{st:aj}{bx:aU}{cO:Nat->Nat}{nb:Option Nat}{a:AV}(hI:iH w G st)(hB:jD w G β bx){u:Value}(h:(execOp ρ o).run P w=.ok (.value u) w)(hr:aO w G a u)(hn:a.bZ=true):iV P ρ o w G β st bx cO nb (.val a) st bx:=
 iV.lO hI hB h hr λb=>by simp only[cv,eJ b a u hn];omega
theorem jY.MY{vals:List eG}{xs:List Value}{vs:List AV}(h:jY w G β vals xs)(hv:iO vals=some vs):cj w G vs xs/\∀b,kS b vals xs=bV b vs xs:=by
 obtain⟨e1,e2,e3⟩:=h.vals hv
 exact⟨⟨e2,e3⟩,λb=>by rw[e1,Bj]⟩
theorem xx{rows:List (List AV)}(h:rows.all AV.aK=true):∀r∈rows,AV.aK r=true:=by simpa using h
theorem Hr{rows:List (List AV)}(h:rows.all AV.ah=true):∀r∈rows,AV.ah r=true:=by simpa using h
theorem xy{sz:Nat}{p:AV->Prop}:∀(qs:List Nat)(vs:List AV)(rows dN:List (List AV)),(∀r∈rows,∀c∈r,p c)->(∀v∈vs,∀c∈v.cells,p c)->fN sz rows qs vs=some dN->∀r∈dN,∀c∈r,p c
 |[],[],rows,dN,hr,_,h=>by simp[fN]at h;subst h;exact hr
 |[],_::_,_,_,_,_,h=>by simp[fN]at h
 |_::_,[],_,_,_,_,h=>by simp[fN]at h
 |i::qs,v::vs,rows,dN,hr,hv,h=>by
  simp only[fN]at h
  split at h
  ·refine xy qs vs _ dN (λr hm=>?_) (λu hu=>hv u (by simp[hu])) h
   rcases List.mem_or_eq_of_mem_set hm with h1|h1
   ·exact hr r h1
   ·rw[h1];exact hv v (by simp)
  ·cases h
theorem Hs{v:AV}(h:v.bZ=true):∀c∈v.cells,c.bZ=true:=by
 cases v<;>simp_all [AV.cells,AV.bZ]
 exact(cy _).1 h
theorem Ht(vs:List AV):∀v∈AV.cL vs,v.bZ=true:=(cy _).1 (fR vs)
theorem BJ{x:Option Operand}{d a:Int}{vals rest:List eG}{xs:List Value}(h:qk x.isSome d vals=some (a,rest))(hR:jY w G β vals (x.toList.map ρ++xs)):wG ρ x d a/\jY w G β rest xs:=by
 unfold qk at h
 cases x with
 |none=>simp at h;obtain⟨rfl,rfl⟩:=h;exact⟨.inl ⟨rfl,rfl⟩,by simpa using hR⟩
 |some y=>
  simp only[Option.isSome_some,if_true]at h
  split at h
  ·rename_i n r
   cases h
   simp only[Option.toList_some,List.map_cons,List.map_nil,List.cons_append,List.nil_append,jY,jQ]at hR
   exact⟨.inr ⟨y,rfl,hR.1.fD⟩,hR.2⟩
  ·cases h
theorem uY{c:Call}{t u:TypeId}(h2:c.argTypes.size=2)(h0:c.argTypes[0]?=some t)(h1:c.argTypes[1]?=some u):c.argTypes = #[t,u]:=by
 apply Array.ext_getElem?
 intro i
 match i with
 |0=>simpa using h0
 |1=>simpa using h1
 |i+2=>simp;omega
section
variable {S:Nat->Option aD}{so:aX}{vals:List eG}{wl aa:Nat}{st bS:aj}{bx fm:aU}{cO:Nat->Nat}{r:eG}
theorem T9{t:TypeId}{x:Operand}{lo hi mx:Option Operand}{tJ:Bool}{sz:Nat}(ho:o.op=.slice t x lo hi mx)(XP:mx.isSome=true->hi.isSome=true)
  (hu:match P.underlying t with|some (.slice e)=>(!tJ&&cx P e sz)=true|some .string=>(tJ && !mx.isSome)=true|_=>False)(hI:iH w G st)(hB:jD w G β bx)
  (hR:jY w G β vals ((uQ x lo hi mx).map ρ)) (hcO:∀b,kS b vals ((uQ x lo hi mx).map ρ)<=cO b) (ha:aL wl aa (.slice tJ lo.isSome hi.isSome mx.isSome sz) vals st bx=some (r,bS,fm)) :
  iV P ρ o w G β st bx cO none r bS fm:=by
 simp only[uQ,List.map_cons,List.map_append]at hR
 unfold aL at ha
 simp only at ha
 split at ha
 ·rename_i a l
  obtain⟨Tb,hRl⟩:=hR
  simp only[jQ]at Tb
  split at ha
  ·cases ha
  ·rename_i n hn
   split at ha
   ·cases ha
   ·rename_i lov l1 GJ
    obtain⟨Fj,hR1⟩:=BJ GJ (xs:=hi.toList.map ρ++mx.toList.map ρ) (by simpa [List.append_assoc] using hRl)
    split at ha
    ·cases ha
    ·rename_i hiv l2 hhi
     obtain⟨Fk,hR2⟩:=BJ hhi hR1
     split at ha
     ·rename_i hmx
      have ag7:mx=none:=by cases mx<;>simp_all
      subst ag7
      split at ha
      ·rename_i v hv
       cases ha
       unfold jK at hv
       split at hv
       ·rename_i s
        split at hv
        ·rename_i hc
         simp only[Bool.and_eq_true,decide_eq_true_eq]at hc
         obtain⟨⟨⟨_,h0⟩,h1⟩,h2⟩:=hc
         cases hv
         simp only[if_true,mV,Option.some.injEq]at hn
         subst hn
         have hus:P.underlying t=some .string:=by
          split at hu
          ·simp at hu
          ·assumption
          ·exact hu.elim
         obtain⟨u,e1,e2⟩:=JD ho hus Tb Fj Fk h0 h1 h2
         exact iV.bZ hI hB e1 e2 rfl
        ·cases hv
       ·simp only[Bool.and_true]at hv
        split at hv
        ·rename_i hc
         simp only[Bool.and_eq_true,decide_eq_true_eq]at hc
         obtain⟨rfl,rfl⟩:=hc
         cases hv
         simp only[mV,eC]at hn
         cases hn
         split at hu
         ·rename_i e BK
          simp only[Bool.and_eq_true]at hu
          exact iV.bZ hI hB (Br ho BK hu.2 Tb Fj Fk (.inl rfl)) .U rfl
         ·simp at hu
         ·exact hu.elim
        ·cases hv
       ·simp only[Bool.and_true]at hv
        split at hv
        ·rename_i hc
         simp only[Bool.and_eq_true,decide_eq_true_eq]at hc
         obtain⟨rfl,rfl⟩:=hc
         cases hv
         simp only[mV,eC]at hn
         cases hn
         split at hu
         ·rename_i e BK
          simp only[Bool.and_eq_true]at hu
          obtain⟨u,e1,e2⟩:=zA ho BK hu.2 Tb Fj Fk (.inl rfl)
          exact iV.bZ hI hB e1 e2 rfl
         ·simp at hu
         ·exact hu.elim
        ·cases hv
       ·rename_i s rows
        simp only at hv
        split at hv
        ·rename_i hc
         simp only[Bool.and_eq_true,decide_eq_true_eq]at hc
         obtain⟨⟨⟨rfl,h0⟩,h1⟩,h2⟩:=hc
         cases hv
         simp only[mV,eC]at hn
         cases hn
         split at hu
         ·rename_i e BK
          simp only[Bool.and_eq_true]at hu
          obtain⟨u,e1,e2⟩:=Bq ho BK hu.2 Tb Fj Fk h0 h1 h2
          exact iV.bZ hI hB e1 e2 rfl
         ·simp at hu
         ·exact hu.elim
        ·cases hv
       ·rename_i s rows
        simp only at hv
        split at hv
        ·rename_i hc
         simp only[Bool.and_eq_true,decide_eq_true_eq]at hc
         obtain⟨⟨⟨rfl,h0⟩,h1⟩,h2⟩:=hc
         cases hv
         simp only[mV,eC]at hn
         cases hn
         split at hu
         ·rename_i e BK
          simp only[Bool.and_eq_true]at hu
          obtain⟨u,e1,e2⟩:=Bq ho BK hu.2 Tb.view Fj Fk h0 h1 h2
          exact iV.bZ hI hB e1 e2 rfl
         ·simp at hu
         ·exact hu.elim
        ·cases hv
       ·cases hv
      ·cases ha
     ·rename_i m hmx
      obtain⟨z,rfl⟩:∃z,mx=some z:=by cases mx<;>simp_all
      simp only[Option.toList_some,List.map_cons,List.map_nil,jY,jQ]at hR2
      have hz:=hR2.1.fD
      split at ha
      ·rename_i v hv
       cases ha
       unfold jK at hv
       split at hv
       ·simp at hv
       ·simp only at hv
        split at hv
        ·rename_i hc
         simp only[Bool.and_eq_true,decide_eq_true_eq,beq_iff_eq]at hc
         obtain⟨⟨rfl,rfl⟩,rfl⟩:=hc
         cases hv
         simp only[mV,eC]at hn
         cases hn
         split at hu
         ·rename_i e BK
          simp only[Bool.and_eq_true]at hu
          exact iV.bZ hI hB (Br ho BK hu.2 Tb Fj Fk (.inr ⟨z,rfl,XP rfl,hz⟩)) .U rfl
         ·simp at hu
         ·exact hu.elim
        ·cases hv
       ·simp only at hv
        split at hv
        ·rename_i hc
         simp only[Bool.and_eq_true,decide_eq_true_eq,beq_iff_eq]at hc
         obtain⟨⟨rfl,rfl⟩,rfl⟩:=hc
         cases hv
         simp only[mV,eC]at hn
         cases hn
         split at hu
         ·rename_i e BK
          simp only[Bool.and_eq_true]at hu
          obtain⟨u,e1,e2⟩:=zA ho BK hu.2 Tb Fj Fk (.inr ⟨z,rfl,XP rfl,hz⟩)
          exact iV.bZ hI hB e1 e2 rfl
         ·simp at hu
         ·exact hu.elim
        ·cases hv
       ·rename_i s rows
        simp only at hv
        split at hv
        ·rename_i hc
         simp only[Bool.and_eq_true,decide_eq_true_eq]at hc
         obtain⟨⟨rfl,rfl⟩,rfl⟩:=hc
         cases hv
         simp only[mV,eC]at hn
         cases hn
         split at hu
         ·rename_i e BK
          simp only[Bool.and_eq_true]at hu
          obtain⟨u,e1,e2⟩:=Bs ho BK hu.2 Tb Fj Fk (XP rfl) hz
          exact iV.bZ hI hB e1 e2 rfl
         ·simp at hu
         ·exact hu.elim
        ·cases hv
       ·rename_i s rows
        simp only at hv
        split at hv
        ·rename_i hc
         simp only[Bool.and_eq_true,decide_eq_true_eq]at hc
         obtain⟨⟨rfl,rfl⟩,rfl⟩:=hc
         cases hv
         simp only[mV,eC]at hn
         cases hn
         split at hu
         ·rename_i e BK
          simp only[Bool.and_eq_true]at hu
          obtain⟨u,e1,e2⟩:=Bs ho BK hu.2 Tb.view Fj Fk (XP rfl) hz
          exact iV.bZ hI hB e1 e2 rfl
         ·simp at hu
         ·exact hu.elim
        ·cases hv
       ·cases hv
      ·cases ha
     ·cases ha
 ·cases ha
end
end Ax
