/- The library of this proof, part 3: an abstract interpreter of the loaded code, and its soundness. -/
import Derived.Test.YtgblgbgjmgjfkaaGreatA2
import Derived.IntWalk

namespace Ax
open Go
variable {P:Program}{w w':World}{G G':Ghost}{β β':List BxG}{ρ:Operand->Value}{o:Oper}
theorem act_set{st:Store}{bx:Boxes}{cO:Nat->Nat}(hI:Inv w G st)(hB:RepB w G β bx)(hX:∀b,cO b+cntB b β bx+cntS b G.ls st<=1){id:Nat}{loc loc':Loc}{ob ob':AObj}{e:Ent}{v:Value}
  (hl:G.ls[id]?=some loc)(hst:st[id]?=some ob)(hs:Stp w G w' G')(hls:G'.ls=G.ls.set id loc')(hnew:RepO w' G' ob' loc')(ht:∀b p,G'.tip b=some p->b<w'.heap.size)
  (hun:∀b,b<w.heap.size->loc.blk≠some b->Untouched w G w' G' b) (hsize:w.heap.size<=w'.heap.size) (hos:w'.os=w.os) (hout:w'.output=w.output) (hrep:RepE w' G' β e v)
  (hc:∀b,cntE b e v+cntO b loc' ob'<=cO b+cntO b loc ob+(if w.heap.size<=b then 1 else 0)):Act1 w G β st bx cO w' G' β (st.set id ob') bx e v:=by
 have hblk:∀b,loc.blk=some b->cntO b loc ob ≥ 1:=by
  intro b hb
  cases ob<;>simp[cntO,hb]
 refine⟨hs,inv_set hI hs hls (fun i l ob2 b hi h1 h2 h3=>?_) hnew ht,repB_keep hB hs fun b hb=>?_,hrep,fun b=>?_,fun b hb hlt=>?_,hsize,hos,hout⟩
 ·refine hun b ((hI.obj i ob2 l h2 h1).held h3) fun hb=>?_
  have h4:=hblk b hb
  have h5:=cntS_two b G.ls st i id l ob2 loc ob hi h1 h2 hl hst
  have:=hX b
  omega
 ·refine hun b (hB.held hb) fun hb'=>?_
  have h4:=hblk b hb'
  have h5:=cntS_get b G.ls st id loc ob hl hst
  have:=hX b
  omega
 ·have h1:=cntS_set b G.ls st id loc ob loc' ob' hl hst
  have h2:=hc b
  rw[hls]
  omega
 ·refine hun b hlt fun hb'=>?_
  have h4:=hblk b hb'
  have h5:=cntS_get b G.ls st id loc ob hl hst
  omega
theorem RowsAt.flat{sz:Nat}{rows:List (List AV)}{loc:Loc}(h:RowsAt w G sz rows loc):RepC w G rows.flatten loc.vals.flatten/\(∀b,cntL b rows.flatten loc.vals.flatten=cntLL b rows loc.vals)/\(∀r∈loc.vals,r.length=sz)/\
  ∀b off,(∀(i:Nat) xs (j:Nat) x,loc.vals[i]?=some xs->xs[j]?=some x->w.cell? ⟨b,off+(i*sz+j),none⟩=some x)->∀(k:Nat) x,loc.vals.flatten[k]?=some x->w.cell? ⟨b,off+k,none⟩=some x:=by
 have hfit':∀r∈loc.vals,r.length=sz:=fun r hr=>by
  obtain⟨i,hi,rfl⟩:=List.mem_iff_getElem.1 hr
  have hi':i<rows.length:=by rw[<-h.vlen];exact hi
  rw[<-(h.reps i rows[i] loc.vals[i] (List.getElem?_eq_getElem hi') (List.getElem?_eq_getElem hi)).1]
  exact fits_iff.1 h.fit _ (List.getElem_mem hi')
 refine⟨repC_flatten rows loc.vals h.vlen.symm h.reps,fun b=>cntL_flatten b rows loc.vals h.vlen.symm fun i r xs h1 h2=>(h.reps i r xs h1 h2).1,hfit',fun b off hc k x hx=>?_⟩
 obtain⟨i,j,r,rfl,e2,e3⟩:=flatten_inv loc.vals k x hfit' hx
 exact hc i r j x e2 e3
theorem act_none{st:Store}{bx:Boxes}{cO:Nat->Nat}(hI:Inv w G st)(hB:RepB w G β bx){sz:Nat}{a:Option Addr}(hsm:a.isSome=true) :
  ∃G',Act1 w G β st bx cO w G' β (st++[.rows 0 sz []]) bx (.val (.mu st.length 0)) (.slice a 0 0):=by
 have hids:∀(id:Nat) loc,G.ls[id]?=some loc->∃loc',(G.ls++[⟨a,0,0,sz,0,false,[]⟩])[id]?=some loc'/\loc.ver<=loc'.ver/\(loc.ver=loc'.ver\/loc.mp=true->loc'.hd=loc.hd):=fun id loc h=>
  ⟨loc,by rw[List.getElem?_append_left (List.getElem?_eq_some_iff.1 h).1];exact h,Nat.le_refl _,fun _=>rfl⟩
 have hs:Stp w G w ⟨G.ls++[⟨a,0,0,sz,0,false,[]⟩],G.tip⟩:=⟨fun _ _ h=>⟨rfl,h⟩,hids⟩
 refine⟨⟨G.ls++[⟨a,0,0,sz,0,false,[]⟩],G.tip⟩,hs,⟨by simp[hI.len],fun id ob loc h1 h2=>?_,hI.tips⟩,repB_keep hB hs fun b _=>⟨rfl,rfl⟩,.mu _ _ _ ⟨a,0,0,sz,0,false,[]⟩ ⟨_,_,_,rfl⟩ ?_ (Nat.le_refl _) fun _=>rfl,fun b=>?_,fun b _ _=>⟨rfl,rfl⟩,Nat.le_refl _,rfl,rfl⟩
 ·by_cases hid:id<st.length
  ·rw[List.getElem?_append_left hid]at h1
   simp only at h2
   rw[List.getElem?_append_left (by rw[hI.len];exact hid)]at h2
   exact(hI.obj id ob loc h1 h2).stp hs fun b _=>⟨rfl,rfl⟩
  ·rw[List.getElem?_append_right (by omega)]at h1
   simp only at h2
   rw[List.getElem?_append_right (by rw[hI.len];omega),hI.len]at h2
   have h0:id-st.length=0:=by have:=(List.getElem?_eq_some_iff.1 h1).1;simp at this;omega
   rw[h0]at h1 h2
   simp at h1 h2
   subst h1;subst h2
   exact⟨rfl,rfl,by simp[fits],by simp,rfl,rfl,rfl,fun i r xs h=>by simp at h,.inl ⟨rfl,rfl,hsm⟩⟩
 ·simp only
  rw[List.getElem?_append_right (by rw[hI.len];exact Nat.le_refl _),hI.len];simp
 ·simp only[cntE,cnt]
  rw[cntS_append b _ _ _ _ hI.len]
  have h0:cntS b [⟨a,0,0,sz,0,false,[]⟩] [.rows 0 sz []]=0:=by simp[cntS,cntO,Loc.blk,cntLL]
  rw[h0];omega
structure AppR (P:Program)(t tx ty e:TypeId)(sz bytes:Nat)(x:Value)(n:Nat)(news:List Value)(w:World):Prop where
 newsLen:news.length=n*sz
 nothing:n=0->∀base sLen sCap,sLen<=sCap->(Builtin.append_ #[t,tx] ty #[.slice base sLen sCap,x]).run P w=.ok (.slice base sLen sCap) w
 room:∀(b off sLen sCap:Nat) (cur:Array Value) (e0:TypeId),w.heap[b]?=some (.cells cur e0 (0,0))->sLen+n<=sCap->off+sCap*sz<=cur.size->
  (Builtin.append_ #[t,tx] ty #[.slice (some ⟨b,off,none⟩) sLen sCap,x]).run P w=.ok (.slice (some ⟨b,off,none⟩) (sLen+n) sCap) (w.setRow b (paste cur.toList (off+sLen*sz) news).toArray)
 new:∀(base:Option Addr) (sLen sCap:Nat) (olds:List Value),(Builtin.firstCells sz sLen (.slice base sLen sCap)).run P w.drew=.ok olds.toArray w.drew->olds.length=sLen*sz->sCap<sLen+n->(sLen+n)*bytes<=140737488355328->
  ∃cap c,(Builtin.append_ #[t,tx] ty #[.slice base sLen sCap,x]).run P w=.ok (.slice (some ⟨w.heap.size,0,none⟩) (sLen+n) cap) (w.drew.alloc (.cells c e))/\sLen+n<=cap/\cap*sz<=c.size/\
   ∀(k:Nat) v,(olds++news)[k]?=some v->c[k]?=some v
theorem appR_src{t tx ty e:TypeId}{sz bytes:Nat}{i:TypeInfo}{z:Value}(h:AppT P t tx e sz bytes i z){x:Value}{n:Nat}{news:List Value}(hs:Go.Src P sz tx x n news w):AppR P t tx ty e sz bytes x n news w where
 newsLen:=hs.newsLen
 nothing:=fun h0 base sLen sCap hle=>by
  subst h0
  have hn:news=[]:=List.eq_nil_of_length_eq_zero (by simpa using hs.newsLen)
  subst hn
  exact run_append_nothing w t tx ty e i h.ht h.hi base sLen sCap hle x (by rw[h.hsz];exact hs)
 room:=fun b off sLen sCap cur e0 hg h1 h2=>run_append_room_at h b off sLen sCap cur e0 hg x n news hs h1 h2
 new:=fun base sLen sCap olds hold hol hg hb=>run_append_new h base sLen sCap olds hold hol x n news hs hg hb
theorem zeroCells_eq(z:Array Value)(n sz:Nat)(hz:z.size=sz):(Builtin.zeroCells z n).toList=((Array.range (n*sz)).map (z[· % z.size]!)).toList:=by
 subst hz;rfl
theorem appR_zeros{t tx ty e:TypeId}{sz bytes:Nat}{i:TypeInfo}{z:Value}(ht:P.underlying t=some (.slice e))(hk:∃k,P.underlying tx=some (.int k))(hi:P.info? e=some i)(hz:i.zero=some z)(hsz:i.size=sz)(hby:i.bytes=bytes)
  (hzs:z.cells.size=sz)(pos:0<sz)(posb:0<bytes){n:Int}(h0:0<=n)(hr:n*bytes<=140737488355328)(w:World)(hone:∀u∈(Builtin.zeroCells z.cells n.toNat).toList,u.oneCell'=true) :
  AppR P t tx ty e sz bytes (.int .i64 n) n.toNat (Builtin.zeroCells z.cells n.toNat).toList w:=by
 obtain⟨k,hk⟩:=hk
 subst hsz;subst hby
 have hn:n<=140737488355328:=by
  have:n*1<=n*i.bytes:=Int.mul_le_mul_of_nonneg_left (by omega) (by omega)
  omega
 have hw:IntKind.i64.wrap n=n:=IntWalk.i64_in n ⟨by omega,by omega⟩
 have hneg:¬n<0:=by omega
 have hbig:¬(281474976710656<n*i.bytes):=by omega
 have hlen:(Builtin.zeroCells z.cells n.toNat).toList.length=n.toNat*i.size:=by rw[Array.length_toList,size_zeroCells,hzs]
 refine⟨hlen,fun e0 base sLen sCap hle=>?_,fun b off sLen sCap cur e0 hg h1 h2=>?_,fun base sLen sCap olds hold hol hg hb=>?_⟩
 ·have hn0:n=0:=by omega
  subst hn0
  cases base<;>simp[Builtin.append_,run_underlying ht,run_underlying hk,Go.sizeOf,typeInfo,hi,asInt,asIntOf,hw,hle,storeCells]
 ·have hle:off+sLen*i.size+n.toNat*i.size<=cur.size:=by
   have:(sLen+n.toNat)*i.size<=sCap*i.size:=Nat.mul_le_mul_right _ h1
   rw[Nat.add_mul]at this
   omega
  have hst:=run_storeCells_paste (P:=P) b (off+sLen*i.size) e0 _ cur w hg (by rw[hlen];exact hle) hone
  by_cases hz0:n.toNat*i.size=0
  ·have hn0:(Builtin.zeroCells z.cells n.toNat).toList=[]:=List.eq_nil_of_length_eq_zero (by rw[hlen,hz0])
   rw[hn0]at hst ⊢
   simp[Builtin.append_,run_underlying ht,run_underlying hk,Go.sizeOf,typeInfo,hi,asInt,asIntOf,hw,hneg,hbig,hz0,h1,Addr.add_lit,hst]
  ·simp[Builtin.append_,run_underlying ht,run_underlying hk,Go.sizeOf,typeInfo,zeroValue,hi,hz,asInt,asIntOf,hw,hneg,hbig,hz0,h1,Addr.add_lit,hst]
 ·have hn:¬(sLen+n.toNat<=sCap):=by omega
  have h63:¬(9223372036854775807<((sLen:Int)+(n.toNat:Int))):=by have:=need_ok hb posb;omega
  have h63':¬(9223372036854775807<((sLen:Int)+max n 0)):=by omega
  have h48:¬(281474976710656<Builtin.nextslicecap (sLen+n.toNat) sCap*i.bytes):=by have:=growslice_fits hg hb;omega
  refine⟨grownCap w (sLen+n.toNat) sCap e,(olds++(Builtin.zeroCells z.cells n.toNat).toList).toArray++Builtin.zeroCells z.cells (grownCap w (sLen+n.toNat) sCap e-(sLen+n.toNat)),?_,grownCap_ge _ _ _ _,?_,fun k v hv=>?_⟩
  ·by_cases hz0:n.toNat*i.size=0
   ·have hn0:(Builtin.zeroCells z.cells n.toNat).toList=[]:=List.eq_nil_of_length_eq_zero (by rw[hlen,hz0])
    rw[hn0]
    simp[Builtin.append_,run_underlying ht,run_underlying hk,Go.sizeOf,typeInfo,zeroValue,hi,hz,asInt,asIntOf,hw,hneg,hbig,hn,h63',h48,hz0,Question.forced,hold,newRow,grownCap]
   ·simp[Builtin.append_,run_underlying ht,run_underlying hk,Go.sizeOf,typeInfo,zeroValue,hi,hz,asInt,asIntOf,hw,hneg,hbig,hn,h63',h48,hz0,Question.forced,hold,newRow,grownCap]
    congr 2
    apply Array.ext'
    simp[List.append_assoc]
  ·have h1:=grownCap_ge w (sLen+n.toNat) sCap e
   rw[Array.size_append,size_zeroCells,hzs]
   simp only[List.size_toArray,List.length_append,hol,hlen]
   rw[<-Nat.add_mul,<-Nat.add_mul]
   exact Nat.mul_le_mul_right _ (by omega)
  ·have hk:=(List.getElem?_eq_some_iff.1 hv).1
   rw[Array.getElem?_append,if_pos (by simpa using hk)]
   simpa using hv
theorem q_appM{t tx ty e:TypeId}{sz bytes:Nat}{st:Store}{bx:Boxes}(hI:Inv w G st)(hB:RepB w G β bx){cO:Nat->Nat}(hX:∀b,cO b+cntB b β bx+cntS b G.ls st<=1)
  {s:AV}{vs vx:Value}(hs:RepV w G s vs){new:List (List AV)}{news:List Value}(hrep:RepC w G new.flatten news)(hsrc:AppR P t tx ty e sz bytes vx new.length news w)(hcel:∀r∈new,AV.allCells r=true)(hno:∀r∈new,AV.noOwnL r=true)
  {wl lim:Nat} {st':Store} {bx':Boxes} {r:Ent} (ha:appM wl lim sz bytes s new st bx=some (r,st',bx')) :
  ∃v w' G',(Builtin.append_ #[t,tx] ty #[vs,vx]).run P w=.ok v w'/\Act1 w G β st bx cO w' G' β st' bx' r v:=by
 unfold appM at ha
 ·split at ha
  ·rename_i hfit
   have hn0:∀b xs,cntL b new.flatten xs=0:=fun b xs=>cntL_noOwn b _ _ ((noOwnL_iff _).2 fun x hx=>by
    obtain⟨r,hr,hx⟩:=List.mem_flatten.1 hx
    exact(noOwnL_iff r).1 (hno r hr) x hx)
   have hnil:new=[]->news=[]:=fun h0=>by
    subst h0
    have:=hrep.1;simp at this;exact List.eq_nil_of_length_eq_zero this.symm
   have fresh:∀base,(Builtin.firstCells sz 0 (.slice base 0 0)).run P w.drew=.ok ([]:List Value).toArray w.drew->new.length*bytes<=room->(new=[]->base.isSome=true)->
     ∃v w' G',(Builtin.append_ #[t,tx] ty #[.slice base 0 0,vx]).run P w=.ok v w'/\Act1 w G β st bx cO w' G' β (st++[.rows 0 sz new]) bx (.val (.mu st.length 0)) v:=by
    intro base hf hr hbs
    by_cases hne:new=[]
    ·have:=hnil hne
     subst this;subst hne
     have:=hsrc.nothing rfl base 0 0 (Nat.le_refl _)
     obtain⟨G',hA⟩:=act_none (w:=w) (G:=G) (β:=β) (cO:=cO) (sz:=sz) (a:=base) hI hB (hbs rfl)
     exact⟨_,_,_,this,hA⟩
    ·have hn:0<new.length:=List.length_pos_iff.2 hne
     obtain⟨cap,c,e1,e2,e3,e4⟩:=hsrc.new base 0 0 [] hf (by simp) (by omega) (by simpa [room] using hr)
     simp only[Nat.zero_add,List.nil_append]at e1 e2 e4
     obtain⟨G',hA,_⟩:=act_rows (w':=w.drew.alloc (.cells c e)) (cO:=cO) hI hB rfl rfl rfl hfit hcel hrep (by omega) e3 e2 e4 (fun b=>by rw[hn0];omega)
     exact⟨_,_,G',e1,hA⟩
   split at ha
   ·split at ha
    ·rename_i hemp
     cases ha
     have h0:new=[]:=by simpa using hemp
     have:=hnil h0
     subst this;subst h0
     cases hs
     have:=hsrc.nothing rfl none 0 0 (Nat.le_refl _)
     exact⟨_,_,_,this,Act1.quiet hI hB (RepV.nilSl) fun b=>by simp[cntE,cnt]⟩
    ·split at ha
     ·rename_i hr
      cases ha;cases hs
      exact fresh none (run_firstCells_none _ _ _ _ _) hr fun h=>absurd h (by rename_i hemp;simpa using hemp)
     ·cases ha
   ·split at ha
    ·rename_i hr
     cases ha
     cases hs with
     |emp a=>exact fresh (some a) (by simp[Builtin.firstCells,loadCells,loadCellsFrom]) hr fun _=>rfl
    ·cases ha
   ·rename_i id ver
    split at ha
    ·rename_i v sz' old hst
     split at ha
     ·rename_i hc
      simp only[Bool.and_eq_true,decide_eq_true_eq]at hc
      obtain⟨⟨⟨⟨rfl,rfl⟩,hr⟩,_⟩,_⟩:=hc
      cases ha
      obtain⟨loc,hl,hmp,hlv,hra⟩:=hI.loc hst
      cases hs with
      |mu _ _ _ loc' hp hl' hv' he=>
      rw[hl]at hl';cases hl'
      have hval:=he (by omega)
      subst hval
      obtain⟨hfl,hfc,hfv,hfcell⟩:=hra.flat
      have hids:∀l':Loc,l'.ver=v+1->∀(i:Nat) l,G.ls[i]?=some l->∃l'',(G.at id l').ls[i]?=some l''/\l.ver<=l''.ver/\(l.ver=l''.ver\/l.mp=true->l''.hd=l.hd):=fun l' hv=>
       ids_at hl (by omega) fun h=>by rcases h with h|h<;>simp_all<;>omega
      have hgl:∀l':Loc,(G.at id l').ls[id]?=some l':=fun l'=>by
       simp only[Ghost.at];rw[List.getElem?_set,if_pos rfl,if_pos (List.getElem?_eq_some_iff.1 hl).1]
      by_cases hne:new=[]
      ·have:=hnil hne
       subst this;subst hne
       have hle:loc.len<=loc.cap:=by
        rcases hra.lies with⟨h0,h1,_⟩|⟨b,off,c,e',hla,hcap,hheap,hsz,hlen,htip,hcells⟩
        ·rw[hra.len,h1];simp
        ·rw[hra.len];exact hlen
       have:=hsrc.nothing rfl loc.a loc.len loc.cap hle
       have hs':Stp w G w (G.at id { loc with ver:=v+1 }):=⟨fun _ _ h=>⟨rfl,h⟩,hids _ rfl⟩
       refine⟨_,_,G.at id { loc with ver:=v+1 },this,act_set hI hB hX hl hst hs' rfl ?_ hI.tips (fun b _ _=>⟨rfl,rfl⟩) (Nat.le_refl _) rfl rfl (.mu _ _ _ { loc with ver:=v+1 } ⟨_,_,_,rfl⟩ (hgl _) (Nat.le_refl _) fun _=>rfl) fun b=>?_⟩
       ·have:=(RepO.stp (w':=w) (G':=G.at id { loc with ver:=v+1 }) (show RepO w G (.rows v sz' old) loc from⟨hmp,hlv,hra⟩) hs' fun b _=>⟨rfl,rfl⟩)
        obtain⟨_,_,h3⟩:=this
        rw[List.append_nil]
        exact⟨hmp,rfl,h3.fit,h3.cel,h3.len,h3.size,h3.vlen,h3.reps,h3.lies⟩
       ·simp only[cntE,cnt,List.append_nil]
        show 0+cntO b loc (.rows v sz' old)<=cO b+cntO b loc (.rows v sz' old)+_
        omega
      ·have hn:0<new.length:=List.length_pos_iff.2 hne
       have hall:=fits_append hra.fit hfit
       have hflat:(old++new).flatten=old.flatten++new.flatten:=List.flatten_append
       have hol:loc.vals.flatten.length=old.length*sz':=by rw[<-hfl.1];exact flatten_length old (fits_iff.1 hra.fit)
       have hnl:news.length=new.length*sz':=hsrc.newsLen
       by_cases hroom:old.length+new.length<=loc.cap
       ·rcases hra.lies with⟨h0,h1,_⟩|⟨b,off,c,e',hla,hcap,hheap,hsz,hlen,htip,hcells⟩
        ·omega
        have hle:off+old.length*sz'+news.length<=c.size:=by
         rw[hnl]
         have:(old.length+new.length)*sz'<=loc.cap*sz':=Nat.mul_le_mul_right _ hroom
         rw[Nat.add_mul]at this
         omega
        have e1:=hsrc.room b off old.length loc.cap c e' hheap hroom hsz
        rw[hla,hra.len]
        have hWids:=hids ⟨some ⟨b,off,none⟩,loc.cap,(old++new).length,sz',v+1,false,chop sz' (old++new).length (loc.vals.flatten++news)⟩ rfl
        have hW:Wr w G (w.setRow b (paste c.toList (off+old.length*sz') news).toArray) ⟨(G.at id ⟨some ⟨b,off,none⟩,loc.cap,(old++new).length,sz',v+1,false,chop sz' (old++new).length (loc.vals.flatten++news)⟩).ls,fun b'=>if b'=b then some 0 else G.tip b'⟩ b:=
         wr_row hheap hle htip (Nat.zero_le _) (Nat.le_refl _) hWids
        have hblk:loc.blk=some b:=by unfold Loc.blk;rw[if_neg (by omega),hla];rfl
        refine⟨_,_,⟨(G.at id ⟨some ⟨b,off,none⟩,loc.cap,(old++new).length,sz',v+1,false,chop sz' (old++new).length (loc.vals.flatten++news)⟩).ls,fun b'=>if b'=b then some 0 else G.tip b'⟩,e1,?_⟩
        refine act_set hI hB hX hl hst hW.stp rfl ⟨rfl,rfl,rowsAt_of_flat (b:=b) (off:=off) (c:=(paste c.toList (off+old.length*sz') news).toArray) (e:=e') (xs:=loc.vals.flatten++news) hall (mem_app hra.cel hcel) ?_ rfl rfl rfl rfl hcap (setRow_heap w b c _ e' (0,0) hheap) (by rw[List.size_toArray,paste_length];simpa using hsz) (by simpa using hroom) (by simp) fun k x hk=>?_⟩
         (hW.tips hI) (fun b' _ hb'=>hW.untouched fun e=>hb' (by rw[hblk,e])) (by simp) rfl rfl (.mu _ _ _ _ ⟨_,_,_,rfl⟩ (hgl _) (Nat.le_refl _) fun _=>by simp) fun b'=>?_
        ·rw[hflat]
         refine(hfl.mono hW.stp fun b' hb'=>hW.untouched fun e=>?_).append (hrep.mono hW.stp fun b' hb'=>by rw[hn0]at hb';omega)
         subst e
         rw[hfc]at hb'
         have h1:=hX b'
         have h2:=cntS_get b' G.ls st id loc _ hl hst
         simp only[cntO,hblk,if_true]at h2
         omega
        ·rw[setRow_cell hheap hle]
         by_cases hk':k<loc.vals.flatten.length
         ·rw[List.getElem?_append_left hk']at hk
          rw[if_neg (by omega)]
          exact hfcell b off hcells k x hk
         ·rw[List.getElem?_append_right (by omega)]at hk
          have hlt:=(List.getElem?_eq_some_iff.1 hk).1
          rw[if_pos (by omega),show off+k-(off+old.length*sz')=k-loc.vals.flatten.length by omega]
          exact hk
        ·have hblk':(⟨some ⟨b,off,none⟩,loc.cap,(old++new).length,sz',v+1,false,chop sz' (old++new).length (loc.vals.flatten++news)⟩:Loc).blk=loc.blk:=by
          rw[hblk];unfold Loc.blk;rw[if_neg (show ¬loc.cap=0 by omega)];rfl
         simp only[cntE,cnt,cntO]
         rw[hblk',cntLL_chop b' (old++new) _ (fits_iff.1 hall) (by rw[hflat,List.length_append,List.length_append,hfl.1,hrep.1]),hflat,cntL_append b' _ _ _ _ hfl.1,hn0,hfc]
         omega
       ·have hf:(Builtin.firstCells sz' loc.len (.slice loc.a loc.len loc.cap)).run P w.drew=.ok loc.vals.flatten.toArray w.drew:=by
         rcases hra.lies with⟨h0,h1,_⟩|⟨b,off,c,e',hla,hcap,hheap,hsz,hlen,htip,hcells⟩
         ·have:loc.vals=[]:=by
           have:=hra.vlen;rw[h1]at this;exact List.eq_nil_of_length_eq_zero (by simpa using this)
          rw[hra.len,h1,this]
          cases loc.a<;>simp[Builtin.firstCells,loadCells,loadCellsFrom]
         ·rw[hla,hra.len]
          exact run_firstCells_some w.drew sz' old.length ⟨b,off,none⟩ old.length loc.cap _ hol (fun j v hj=>by rw[addr_add,drew_cell];exact hfcell b off hcells j v hj)
        obtain⟨cap',c,e1,e2,e3,e4⟩:=hsrc.new loc.a loc.len loc.cap loc.vals.flatten hf (by rw[hol,hra.len]) (by rw[hra.len];omega) (by rw[hra.len];exact hr)
        rw[hra.len,<-List.length_append]at e2
        have hcp:0<cap':=by rw[List.length_append]at e2;omega
        have hw:(w.drew.alloc (.cells c e)).heap=w.heap.push (.cells c e):=rfl
        have hlN:(G.new w.heap.size (some 0) []).ls[id]?=some loc:=by simp only[Ghost.new,List.append_nil];exact hl
        have hs':Stp w G (w.drew.alloc (.cells c e)) ((G.new w.heap.size (some 0) []).at id ⟨some ⟨w.heap.size,0,none⟩,cap',(old++new).length,sz',v+1,false,chop sz' (old++new).length (loc.vals.flatten++news)⟩):=
         (stp_new hw (some 0) []).trans (stp_at hlN (by simp;omega) fun h=>by rcases h with h|h<;>simp_all<;>omega)
        refine⟨_,_,_,e1,act_set hI hB hX hl hst hs' (loc':=⟨some ⟨w.heap.size,0,none⟩,cap',(old++new).length,sz',v+1,false,chop sz' (old++new).length (loc.vals.flatten++news)⟩) (by simp only[Ghost.at,Ghost.new,List.append_nil]) ⟨rfl,rfl,rowsAt_of_flat (b:=w.heap.size) (off:=0) (c:=c) (e:=e) (xs:=loc.vals.flatten++news) hall (mem_app hra.cel hcel) ?_ rfl rfl rfl rfl hcp (heap_new hw) (by simpa using e3) e2 (by simp[Ghost.at,Ghost.new]) fun k x hk=>?_⟩
         (fun b p hp=>?_) (fun b hb _=>?_) (by rw[hw];simp) rfl rfl (.mu _ _ _ _ ⟨_,_,_,rfl⟩ (by simp only[Ghost.at];rw[List.getElem?_set,if_pos rfl,if_pos (List.getElem?_eq_some_iff.1 hlN).1]) (Nat.le_refl _) fun _=>by simp[hra.len]) fun b'=>?_⟩
        ·rw[hflat]
         exact(hfl.mono hs' fun b' hb'=>untouched_new (G:=G) hw (some 0) [] (hfl.held hb')).append (hrep.mono hs' fun b' hb'=>by rw[hn0]at hb';omega)
        ·rw[Nat.zero_add];exact cell_new hw (e4 k x hk)
        ·simp only[Ghost.at,Ghost.new]at hp
         rw[hw,Array.size_push]
         split at hp
         ·omega
         ·have:=hI.tips b p hp;omega
        ·exact untouched_new (G:=G) hw (some 0) [] hb
        ·have hblk':(⟨some ⟨w.heap.size,0,none⟩,cap',(old++new).length,sz',v+1,false,chop sz' (old++new).length (loc.vals.flatten++news)⟩:Loc).blk=some w.heap.size:=by
          unfold Loc.blk;rw[if_neg (show ¬cap'=0 by omega)];rfl
         simp only[cntE,cnt,cntO]
         rw[hblk',cntLL_chop b' (old++new) _ (fits_iff.1 hall) (by rw[hflat,List.length_append,List.length_append,hfl.1,hrep.1]),hflat,cntL_append b' _ _ _ _ hfl.1,hn0,hfc]
         simp only[Option.some.injEq]
         by_cases hb:w.heap.size=b'
         ·subst hb;rw[if_pos (Nat.le_refl _)];simp;omega
         ·rw[if_neg hb];omega
     ·cases ha
    ·cases ha
   ·cases ha
  ·cases ha
theorem q_appendM{t tx ty e:TypeId}{sz bytes:Nat}{i:TypeInfo}{z:Value}(h:AppT P t tx e sz bytes i z){st:Store}{bx:Boxes}(hI:Inv w G st)(hB:RepB w G β bx){cO:Nat->Nat}(hX:∀b,cO b+cntB b β bx+cntS b G.ls st<=1)
  {s x:AV}{vs vx:Value}(hs:RepV w G s vs)(hx:RepV w G x vx){wl lim:Nat}{st':Store}{bx':Boxes}{r:Ent}(ha:act0 wl lim (.appendM sz bytes) [.val s,.val x] st bx=some (r,st',bx')) :
  ∃v w' G',(Builtin.append_ #[t,tx] ty #[vs,vx]).run P w=.ok v w'/\Act1 w G β st bx cO w' G' β st' bx' r v:=by
 simp only[act0]at ha
 split at ha
 ·cases ha
 ·rename_i new hnew
  by_cases hfit:fits sz new=true
  ·obtain⟨news,hrep,hsrc,hcel,hno,_⟩:=brings_ok hI hx hnew hfit h.kind
   exact q_appM hI hB hX hs hrep (appR_src h hsrc) hcel hno ha
  ·unfold appM at ha
   rw[if_neg hfit]at ha
   cases ha
theorem q_appendZ{t tx ty e:TypeId}{sz bytes:Nat}(ht:P.underlying t=some (.slice e))(hk:∃k,P.underlying tx=some (.int k))(hsz:cellsIs P e sz=true)(hby:bytesIs P e bytes=true){zero:List AV}(hz:zeroIs P e zero=true)(pos:0<sz)(posb:0<bytes)
  {st:Store}{bx:Boxes}(hI:Inv w G st)(hB:RepB w G β bx){cO:Nat->Nat}(hX:∀b,cO b+cntB b β bx+cntS b G.ls st<=1)
  {s x:AV} {vs vx:Value} (hs:RepV w G s vs) (hx:RepV w G x vx) {wl lim:Nat} {st':Store} {bx':Boxes} {r:Ent} (ha:act0 wl lim (.appendZ sz bytes zero) [.val s,.val x] st bx=some (r,st',bx')) :
  ∃v w' G',(Builtin.append_ #[t,tx] ty #[vs,vx]).run P w=.ok v w'/\Act1 w G β st bx cO w' G' β st' bx' r v:=by
 simp only[act0]at ha
 split at ha
 ·rename_i n heq
  simp only[List.cons.injEq,Ent.val.injEq,and_true]at heq
  obtain⟨rfl,rfl⟩:=heq
  split at ha
  ·rename_i hc
   obtain⟨h0,hr,hzl,hpu⟩:=hc
   obtain⟨i,z,hi,hiz,hzr,hzn,hzc⟩:=zeroIs_ok hz w G
   obtain⟨i',hi',his,_⟩:=info_cells hsz
   rw[hi]at hi';cases hi'
   have hb:i.bytes=bytes:=by simpa [bytesIs,hi] using hby
   have hzs:z.cells.size=sz:=by rw[<-hzl,hzr.1];simp
   have hrz:=rep_zeros (n:=n.toNat) hzr hzl pos
   rw[<-zeroCells_eq z.cells n.toNat sz hzs]at hrz
   have hR:=appR_zeros (ty:=ty) ht hk hi hiz his hb hzs pos posb h0 (by simpa [room] using hr) w (hrz.ones (RepC.allCells_flat fun r hr=>by rw[List.eq_of_mem_replicate hr];exact hzc))
   cases hx
   rw[show n.toNat=(List.replicate n.toNat zero).length by simp]at hR
   exact q_appM hI hB hX hs hrz (by simpa using hR) (fun r hr=>by rw[List.eq_of_mem_replicate hr];exact hzc) (fun r hr=>by rw[List.eq_of_mem_replicate hr];exact(noOwnL_iff zero).2 fun c hc=>(hzn c hc).1) ha
  ·cases ha
 ·cases ha
end Ax
namespace Ax
open Go
variable {P:Program}{w w':World}{G G':Ghost}{β β':List BxG}{ρ:Operand->Value}{o:Oper}
theorem ptr_row{st:Store}(hI:Inv w G st){id ver i k sz:Nat}{v:Value}{rows:List (List AV)}{r:List AV}(hp:RepV w G (.ptr id ver i k) v)(hst:st[id]?=some (.rows ver sz rows))(hr:rows[i]?=some r) :
  ∃loc b off c e xs,G.ls[id]?=some loc/\loc.mp=false/\loc.ver=ver/\RowsAt w G sz rows loc/\v=.pointer (some ⟨b,off+(i*sz+k),none⟩)/\loc.a=some ⟨b,off,none⟩/\0<loc.cap/\loc.blk=some b/\
   w.heap[b]?=some (.cells c e (0,0))/\off+loc.cap*sz<=c.size/\rows.length<=loc.cap/\G.tip b=some 0/\loc.vals[i]?=some xs/\RepC w G r xs/\
   ∀(i:Nat) xs (j:Nat) x,loc.vals[i]?=some xs->xs[j]?=some x->w.cell? ⟨b,off+(i*sz+j),none⟩=some x:=by
 obtain⟨loc,hl,hmp,hlv,hra⟩:=hI.loc hst
 cases hp with
 |ptr _ _ _ _ _ loc' hpp hl' hv he=>
 rw[hl]at hl';cases hl'
 obtain⟨a,hla,rfl⟩:=he hlv.symm
 rcases hra.lies with⟨_,hnil,_⟩|⟨b,off,c,e',hla',hcap,hheap,hle,hlen,htip,hcells⟩
 ·subst hnil;simp at hr
 ·rw[hla']at hla;cases hla
  have hi:i<loc.vals.length:=by rw[hra.vlen];exact(List.getElem?_eq_some_iff.1 hr).1
  have hv:=List.getElem?_eq_getElem hi
  exact⟨loc,b,off,c,e',loc.vals[i],hl,hmp,hlv,hra,by rw[hra.size],hla',hcap,by unfold Loc.blk;rw[if_neg (by omega),hla'];rfl,hheap,hle,hlen,htip,hv,hra.reps i r _ hr hv,hcells⟩
theorem allCells_paste{as vs:List AV}(h:AV.allCells as=true)(k:AV.allCells vs=true){n:Nat}(hn:n+vs.length<=as.length):AV.allCells (paste as n vs)=true:=by
 rw[paste_eq _ _ _ hn]
 simp only[AV.allCells,List.all_eq_true,List.mem_append]at *
 intro x hx
 rcases hx with (hx|hx)|hx
 ·exact h x (List.mem_of_mem_take hx)
 ·exact k x hx
 ·exact h x (List.mem_of_mem_drop hx)
theorem q_store{t:TypeId}{x y:Operand}{n:Nat}(ho:o.op=.store t x y)(hn:cellsIs P t n=true){st:Store}{bx:Boxes}(hI:Inv w G st)(hB:RepB w G β bx){cO:Nat->Nat}(hX:∀b,cO b+cntB b β bx+cntS b G.ls st<=1)
  {p v:AV}(hp:RepV w G p (ρ x))(hv:RepV w G v (ρ y))(hcs:∀b,cnt b v (ρ y)<=cO b){wl lim:Nat}{st':Store}{bx':Boxes}{r:Ent}(ha:act0 wl lim (.store n) [.val p,.val v] st bx=some (r,st',bx')) :
  ∃w' G',(execOp ρ o).run P w=.ok .skip w'/\Act1 w G β st bx cO w' G' β st' bx' r undef:=by
 simp only[act0]at ha
 split at ha
 ·rename_i hcond
  simp only[Bool.and_eq_true,decide_eq_true_eq]at hcond
  obtain⟨hvn,hvc⟩:=hcond
  split at ha
  ·rename_i st1 hw
   cases ha
   unfold writeP at hw
   split at hw
   ·rename_i id ver i k
    split at hw
    ·rename_i ve sz rows hst
     split at hw
     ·rename_i hver
      simp only[Bool.and_eq_true,decide_eq_true_eq]at hver
      obtain⟨rfl,_⟩:=hver
      split at hw
      ·rename_i row hrow
       split at hw
       ·rename_i hfit
        cases hw
        obtain⟨loc,b,off,c,e,xs,hl,hmp,hlv,hra,hpv,hla,hcap,hblk,hheap,hle,hlen,htip,hvi,hrx,hcells⟩:=ptr_row hI hp hst hrow
        obtain⟨hcv,hcn⟩:=hv.cells
        have hrl:row.length=sz:=fits_iff.1 hra.fit row (mem_get hrow)
        have hxl:xs.length=sz:=by rw[<-hrx.1];exact hrl
        have hi:i<rows.length:=(List.getElem?_eq_some_iff.1 hrow).1
        have hyl:(ρ y).cells.toList.length=v.cells.length:=hcv.1.symm
        have hones:=hcv.ones hvc
        have hin:off+(i*sz+k)+(ρ y).cells.toList.length<=c.size:=by
         have h1:(i+1)*sz<=loc.cap*sz:=Nat.mul_le_mul_right _ (by omega)
         rw[Nat.succ_mul]at h1
         omega
        have hst1:=run_storeCells_paste (P:=P) b (off+(i*sz+k)) e (ρ y).cells.toList c w hheap hin hones
        have hids:=ids_at (loc':={ loc with vals:=loc.vals.set i (paste xs k (ρ y).cells.toList) }) hl (Nat.le_refl _) fun _=>rfl
        have hW:Wr w G (w.setRow b (paste c.toList (off+(i*sz+k)) (ρ y).cells.toList).toArray) ⟨(G.at id { loc with vals:=loc.vals.set i (paste xs k (ρ y).cells.toList) }).ls,fun b'=>if b'=b then some 0 else G.tip b'⟩ b:=
         wr_row hheap hin htip (Nat.zero_le _) (Nat.le_refl _) hids
        have hone:cO b=0/\cntLL b rows loc.vals=0:=by
         have h1:=hX b
         have h2:=cntS_get b G.ls st id loc _ hl hst
         simp only[cntO,hblk,if_true]at h2
         omega
        refine⟨_,⟨(G.at id { loc with vals:=loc.vals.set i (paste xs k (ρ y).cells.toList) }).ls,fun b'=>if b'=b then some 0 else G.tip b'⟩,?_,act_set hI hB hX hl hst hW.stp rfl ⟨hmp,hlv,?_⟩ (hW.tips hI) (fun b' _ hb'=>hW.untouched fun e=>hb' (by rw[hblk,e])) (by simp) rfl rfl trivial fun b'=>?_⟩
        ·have hsz:(ρ y).cells.size=n:=by rw[<-hvn,hcv.1];simp
         simp only[execOp,ho,hpv,Sem.run_bind,Instr.storeAt,Instr.sureAddr,Sem.run_pure,Result.andThen_ok,storeVar,run_sizeOf_is hn,hsz,ne_eq,not_true_eq_false,if_false,hst1]
        ·have hmono:RepC (w.setRow b (paste c.toList (off+(i*sz+k)) (ρ y).cells.toList).toArray) ⟨(G.at id { loc with vals:=loc.vals.set i (paste xs k (ρ y).cells.toList) }).ls,fun b'=>if b'=b then some 0 else G.tip b'⟩ v.cells (ρ y).cells.toList:=
          hcv.mono hW.stp fun b' hb'=>hW.untouched fun e=>by
           subst e
           rw[hcn]at hb'
           have:=hcs b'
           omega
         have hold:∀(i':Nat) r' xs',rows[i']?=some r'->loc.vals[i']?=some xs'->RepC (w.setRow b (paste c.toList (off+(i*sz+k)) (ρ y).cells.toList).toArray) ⟨(G.at id { loc with vals:=loc.vals.set i (paste xs k (ρ y).cells.toList) }).ls,fun b'=>if b'=b then some 0 else G.tip b'⟩ r' xs':=fun i' r' xs' h1 h2=>
          (hra.reps i' r' xs' h1 h2).mono hW.stp fun b' hb'=>hW.untouched fun e=>by
           subst e
           have:=cntLL_get b' rows loc.vals i' r' xs' h1 h2
           omega
         refine⟨fits_iff.2 fun r' hr'=>?_,fun r' hr'=>?_,by simp[hra.len],hra.size,by simp[hra.vlen],fun i' r' xs' h1 h2=>?_,.inr ⟨b,off,_,e,hla,hcap,setRow_heap w b c _ e (0,0) hheap,by rw[List.size_toArray,paste_length];simpa using hle,by simpa using hlen,by simp,fun i' xs' j z h1 h2=>?_⟩⟩
         ·rcases List.mem_or_eq_of_mem_set hr' with h|h
          ·exact fits_iff.1 hra.fit r' h
          ·rw[h,paste_length];exact hrl
         ·rcases List.mem_or_eq_of_mem_set hr' with h|h
          ·exact hra.cel r' h
          ·rw[h];exact allCells_paste (hra.cel row (mem_get hrow)) hvc hfit
         ·simp only at h2
          rw[List.getElem?_set]at h1 h2
          by_cases hii:i=i'
          ·subst hii
           rw[if_pos rfl,if_pos hi]at h1
           rw[if_pos rfl,if_pos (List.getElem?_eq_some_iff.1 hvi).1]at h2
           cases h1;cases h2
           exact(hold i row xs hrow hvi).paste hmono hfit
          ·rw[if_neg hii]at h1 h2
           exact hold i' r' xs' h1 h2
         ·simp only at h1
          rw[setRow_cell hheap hin]
          rw[List.getElem?_set]at h1
          by_cases hii:i=i'
          ·subst hii
           rw[if_pos rfl]at h1
           split at h1
           ·cases h1
            rw[paste_get _ _ _ _ (by rw[hyl,hxl,<-hrl];exact hfit)]at h2
            split at h2
            ·rename_i hj
             rw[if_pos (by omega),show off+(i*sz+j)-(off+(i*sz+k))=j-k by omega]
             exact h2
            ·rename_i hj
             rw[if_neg (by omega)]
             exact hcells i xs j z hvi h2
           ·cases h1
          ·rw[if_neg hii]at h1
           have hj:j<sz:=by
            have h3:=(List.getElem?_eq_some_iff.1 h2).1
            have h4:=hra.flat.2.2.1 xs' (mem_get h1)
            omega
           have:¬(off+(i*sz+k)<=off+(i'*sz+j)/\off+(i'*sz+j)<off+(i*sz+k)+(ρ y).cells.toList.length):=by
            rcases Nat.lt_or_gt_of_ne hii with hlt|hlt
            ·have h5:(i+1)*sz<=i'*sz:=Nat.mul_le_mul_right _ hlt
             rw[Nat.succ_mul]at h5
             omega
            ·have h5:(i'+1)*sz<=i*sz:=Nat.mul_le_mul_right _ hlt
             rw[Nat.succ_mul]at h5
             omega
           rw[if_neg this]
           exact hcells i' xs' j z h1 h2
        ·have h1:=cntLL_set b' rows loc.vals i row xs (paste row k v.cells) (paste xs k (ρ y).cells.toList) hrow hvi
         have h2:=cntL_paste b' row v.cells xs (ρ y).cells.toList k hrx.1 hcv.1 hfit
         have h3:=hcs b'
         rw[hcn]at h2
         have hb:(if ({ loc with vals:=loc.vals.set i (paste xs k (ρ y).cells.toList) }:Loc).blk=some b' then 1 else 0)=(if loc.blk=some b' then 1 else 0):=rfl
         simp only[cntE,cntO]
         rw[hb]
         omega
       ·cases hw
      ·cases hw
     ·cases hw
    ·cases hw
   ·cases hw
  ·cases ha
 ·cases ha
theorem RepV.took{a:AV}{v:Value}(h:RepV w G a v):RepV w G a.took v:=by
 cases h with
 |own sz rows a cap hsp hcap hfit hno hpu hce hc hr htip hblk=>exact .gone _ rfl
 |raw sz rows a cap hsp hcap hfit hno hpu hce hc hr htip hblk=>exact .gone _ rfl
 |agg cs vs hl h=>exact .agg cs vs hl h
 |tup cs vs hl h=>exact .tup cs vs hl h
 |undef=>exact .undef
 |gone v h=>exact .gone v h
 |bool b=>exact .bool b
 |int k n=>exact .int k n
 |str l s h=>exact .str l s h
 |nilPtr=>exact .nilPtr
 |nilSl=>exact .nilSl
 |nilMap=>exact .nilMap
 |nilFn=>exact .nilFn
 |nilIf=>exact .nilIf
 |lst sz rows a cap hsp hcap hfit hno hpu hce hc hr=>exact .lst sz rows a cap hsp hcap hfit hno hpu hce hc hr
 |emp a=>exact .emp a
 |mu id ver v loc hp hl hv he=>exact .mu id ver v loc hp hl hv he
 |ptr id ver i k v loc hp hl hv he=>exact .ptr id ver i k v loc hp hl hv he
 |pel sz rows i k a cap hl=>exact .pel sz rows i k a cap hl
 |map id loc b hl hm hb=>exact .map id loc b hl hm hb
 |fn f first caps vf vc hl hm hn h k=>exact .fn f first caps vf vc hl hm hn h k
theorem cnt_took(b:Nat)(a:AV)(v:Value)(h:a.isCell=true):cnt b a.took v=0:=by
 refine cnt_noOwn b _ _ ?_
 cases a<;>simp_all [AV.took,AV.noOwn,AV.isCell]
theorem isCell_took(a:AV)(h:a.isCell=true):a.took.isCell=true:=by
 cases a<;>simp_all [AV.took,AV.isCell]
theorem RepC.took{as:List AV}{xs:List Value}(h:RepC w G as xs):RepC w G (as.map AV.took) xs:=by
 refine⟨by simp[h.1],fun i c v h1 h2=>?_⟩
 simp only[List.getElem?_map,Option.map_eq_some_iff]at h1
 obtain⟨c',h1,rfl⟩:=h1
 exact(h.2 i c' v h1 h2).took
theorem cntL_took(b:Nat):∀(as:List AV)(xs:List Value),AV.allCells as=true->cntL b (as.map AV.took) xs=0
 |[],xs,_=>by simp[cntL]
 |a::as,[],_=>by simp[cntL]
 |a::as,x::xs,h=>by
  simp only[AV.allCells,List.all_cons,Bool.and_eq_true]at h
  have:=cntL_took b as xs h.2
  simp only[List.map_cons,cntL,cnt_took b a x h.1,this]
theorem allCells_took{as:List AV}(h:AV.allCells as=true):AV.allCells (as.map AV.took)=true:=by
 simp only[AV.allCells,List.all_eq_true,List.mem_map]at *
 rintro x ⟨y,hy,rfl⟩
 exact isCell_took y (h y hy)
theorem allCells_cut{as:List AV}(h:AV.allCells as=true)(k n:Nat):AV.allCells ((as.drop k).take n)=true:=by
 simp only[AV.allCells,List.all_eq_true]at *
 intro x hx
 exact h x (List.mem_of_mem_drop (List.mem_of_mem_take hx))
theorem paste_self{α:Type}(xs:List α)(k n:Nat)(h:k+n<=xs.length):paste xs k ((xs.drop k).take n)=xs:=by
 rw[paste_eq _ _ _ (by simp;omega)]
 have:((xs.drop k).take n).length=n:=by simp;omega
 rw[this,List.append_assoc,<-List.drop_drop,List.take_append_drop,List.take_append_drop]
theorem took_row{r cs:List AV}{xs:List Value}{k n:Nat}(hr:RepC w G r xs)(hc:cut r k n=some cs)(hcel:AV.allCells r=true) :
  RepC w G (paste r k (cs.map AV.took)) xs/\AV.allCells (paste r k (cs.map AV.took))=true/\∀b,cntL b (paste r k (cs.map AV.took)) xs+cntL b cs ((xs.drop k).take n)=cntL b r xs:=by
 obtain⟨rfl,hle,hlen⟩:=cut_some hc
 have hcc:=allCells_cut hcel k n
 have hle':k+n<=xs.length:=by rw[<-hr.1];exact hle
 have hself:=paste_self xs k n hle'
 refine⟨?_,allCells_paste hcel (allCells_took hcc) (by rw[List.length_map];omega),fun b=>?_⟩
 ·have:=hr.paste ((hr.drop k).take n).took (n:=k) (by rw[List.length_map];omega)
  rw[hself]at this
  exact this
 ·have h1:=cntL_take_drop b k r xs hr.1
  have h2:=cntL_take_drop b n (r.drop k) (xs.drop k) (by simp[hr.1])
  have h3:=cntL_took b ((r.drop k).take n) ((xs.drop k).take n) hcc
  have e:cntL b (paste r k (((r.drop k).take n).map AV.took)) xs=cntL b (paste r k (((r.drop k).take n).map AV.took)) (paste xs k ((xs.drop k).take n)):=by rw[hself]
  rw[e,paste_eq _ _ _ (by rw[List.length_map];omega),paste_eq _ _ _ (by simp;omega),cntL_append b _ _ _ _ (by have:=hr.1;simp;omega),cntL_append b _ _ _ _ (by have:=hr.1;simp;omega),h3]
  have l1:(((r.drop k).take n).map AV.took).length=n:=by rw[List.length_map];omega
  have l2:((xs.drop k).take n).length=n:=by simp;omega
  rw[l1,l2]
  rw[List.drop_drop,List.drop_drop]at h2
  omega
theorem set_self{α:Type}(l:List α)(i:Nat)(x:α)(h:l[i]?=some x):l.set i x=l:=by
 apply List.ext_getElem?
 intro j
 rw[List.getElem?_set]
 split
 ·rename_i e;subst e
  split
  ·exact h.symm
  ·rename_i hn;exact absurd (List.getElem?_eq_some_iff.1 h).1 hn
 ·rfl
theorem q_loadTake{t:TypeId}{x:Operand}{n:Nat}{agg:Bool}(ho:o.op=.load t x)(hn:cellsIs P t n=true)(hagg:isAggT P t=some agg)(hone:agg=false->n=1){st:Store}{bx:Boxes}(hI:Inv w G st)(hB:RepB w G β bx){cO:Nat->Nat}(hX:∀b,cO b+cntB b β bx+cntS b G.ls st<=1)
  {p:AV}(hp:RepV w G p (ρ x)){wl lim:Nat}{st':Store}{bx':Boxes}{r:Ent}(ha:act0 wl lim (.load agg n true) [.val p] st bx=some (r,st',bx')) :
  ∃v,(execOp ρ o).run P w=.ok (.value v) w/\Act1 w G β st bx cO w G β st' bx' r v:=by
 simp only[act0,if_true]at ha
 split at ha
 ·rename_i cs hread
  split at ha
  ·rename_i st1 v hw hv
   cases ha
   unfold writeP at hw
   split at hw
   ·rename_i id ver i k
    split at hw
    ·rename_i ve sz rows hst
     split at hw
     ·rename_i hver
      simp only[Bool.and_eq_true,decide_eq_true_eq]at hver
      obtain⟨rfl,_⟩:=hver
      split at hw
      ·rename_i row hrow
       split at hw
       ·rename_i hfit
        cases hw
        simp only[readP,hst,hrow,if_true]at hread
        obtain⟨loc,b,off,c,e,xs,hl,hmp,hlv,hra,hpv,hla,hcap,hblk,hheap,hle,hlen,htip,hvi,hrx,hcells⟩:=ptr_row hI hp hst hrow
        obtain⟨t1,t2,t3⟩:=took_row hrx hread (hra.cel row (mem_get hrow))
        obtain⟨hcs,hle2,hl2⟩:=cut_some hread
        have hxl:xs.length=row.length:=hrx.1.symm
        have hylen:((xs.drop k).take n).length=n:=by simp;omega
        have hrep:RepC w G cs ((xs.drop k).take n):=by rw[hcs];exact(hrx.drop k).take n
        obtain⟨u,h1,h2,h3⟩:=q_load ho hn hagg hone hpv hylen hrep (fun j z hz=>by
         rw[List.getElem?_take]at hz
         split at hz
         ·rw[List.getElem?_drop]at hz
          rw[show off+(i*sz+k)+j=off+(i*sz+(k+j)) by omega]
          exact hcells i xs (k+j) z hvi hz
         ·cases hz) hv
        refine⟨u,h1,act_set hI hB hX hl hst (Stp.refl w G) (set_self _ _ _ hl).symm ⟨hmp,hlv,?_⟩ hI.tips (fun b _ _=>⟨rfl,rfl⟩) (Nat.le_refl _) rfl rfl h2 fun b'=>?_⟩
        ·refine⟨fits_iff.2 fun r' hr'=>?_,fun r' hr'=>?_,by simp[hra.len],hra.size,by simp[hra.vlen],fun i' r' xs' h1 h2=>?_,.inr ⟨b,off,c,e,hla,hcap,hheap,hle,by simpa using hlen,htip,hcells⟩⟩
         ·rcases List.mem_or_eq_of_mem_set hr' with h|h
          ·exact fits_iff.1 hra.fit r' h
          ·rw[h,paste_length];exact fits_iff.1 hra.fit row (mem_get hrow)
         ·rcases List.mem_or_eq_of_mem_set hr' with h|h
          ·exact hra.cel r' h
          ·rw[h];exact t2
         ·rw[List.getElem?_set]at h1
          by_cases hii:i=i'
          ·subst hii
           rw[if_pos rfl]at h1
           split at h1
           ·cases h1
            rw[hvi]at h2;cases h2
            exact t1
           ·cases h1
          ·rw[if_neg hii]at h1
           exact hra.reps i' r' xs' h1 h2
        ·have h4:=cntLL_set b' rows loc.vals i row xs (paste row k (cs.map AV.took)) xs hrow hvi
         rw[set_self _ _ _ hvi]at h4
         have h5:=t3 b'
         have h6:=h3 b'
         simp only[cntE,cntO]
         omega
       ·cases hw
      ·cases hw
     ·cases hw
    ·cases hw
   ·cases hw
  ·cases ha
 ·cases ha
end Ax
namespace Ax
open Go
variable {P:Program}{w w':World}{G G':Ghost}{β β':List BxG}{ρ:Operand->Value}{o:Oper}
def BxStep(nb:Option Nat)(β β':List BxG):Prop:=∀(j:Nat) g,β[j]?=some g->∃g',β'[j]?=some g'/\(nb≠some j->g'.blk=g.blk)
theorem BxStep.refl(nb:Option Nat)(β:List BxG):BxStep nb β β:=fun _ g h=>⟨g,h,fun _=>rfl⟩
theorem BxStep.set{nb:Option Nat}{j:Nat}{g g':BxG}(hg:β[j]?=some g)(h:nb≠some j->g'.blk=g.blk):BxStep nb β (β.set j g'):=by
 intro i x hx
 by_cases hi:j=i
 ·subst hi
  rw[hg]at hx;cases hx
  exact⟨g',by rw[List.getElem?_set,if_pos rfl,if_pos (List.getElem?_eq_some_iff.1 hg).1],h⟩
 ·exact⟨x,by rw[List.getElem?_set,if_neg hi];exact hx,fun _=>rfl⟩
theorem act_boxset{st:Store}{bx:Boxes}{cO:Nat->Nat}(hI:Inv w G st)(hB:RepB w G β bx)(hX:∀b,cO b+cntB b β bx+cntS b G.ls st<=1){j:Nat}{g g':BxG}{row row':List AV}{e:Ent}{v:Value}
  (hg:β[j]?=some g)(hr:bx[j]?=some row)(hblk:g'.blk=g.blk)(hs:Stp w G w' G')(hls:G'.ls=G.ls)(hnew:BoxAt w' G' row' g')(ht:∀b p,G'.tip b=some p->b<w'.heap.size)
  (hun:∀b,b<w.heap.size->g.blk≠some b->Untouched w G w' G' b) (hsize:w.heap.size<=w'.heap.size) (hos:w'.os=w.os) (hout:w'.output=w.output) (hrep:RepE w' G' (β.set j g') e v)
  (hc:∀b,cntE b e v+cntL b row' g'.vals<=cO b+cntL b row g.vals):Act1 w G β st bx cO w' G' (β.set j g') st (bx.set j row') e v:=by
 have key:∀b,g.blk=some b->1<=(if g.blk=some b then 1 else 0)+cntL b row g.vals:=fun b h=>by rw[if_pos h];omega
 refine⟨hs,inv_keep hI hs hls (fun b hb=>hun b (hI.held hb) fun h=>?_) ht,⟨by simp[hB.len],fun i r x h1 h2=>?_⟩,hrep,fun b=>?_,fun b hb hlt=>hun b hlt fun h=>?_,hsize,hos,hout⟩
 ·have h1:=key b h
  have h2:=cntB_get b β bx j g row hg hr
  have:=hX b
  omega
 ·rw[List.getElem?_set]at h1 h2
  by_cases hij:j=i
  ·subst hij
   rw[if_pos rfl,if_pos (List.getElem?_eq_some_iff.1 hr).1]at h1
   rw[if_pos rfl,if_pos (List.getElem?_eq_some_iff.1 hg).1]at h2
   cases h1;cases h2;exact hnew
  ·rw[if_neg hij]at h1 h2
   refine(hB.box i r x h1 h2).stp hs fun b hb=>hun b (hB.held (b:=b) (by have:=cntB_get b β bx i x r h2 h1;omega)) fun h=>?_
   have h3:=key b h
   have h4:=cntB_two b β bx i j x r g row (fun e=>hij e.symm) h2 h1 hg hr
   have:=hX b
   omega
 ·have h1:=cntB_set b β bx j g row g' row' hg hr
  have h2:=hc b
  rw[hls]
  rw[hblk]at h1
  omega
 ·have h1:=key b h
  have h2:=cntB_get b β bx j g row hg hr
  omega
theorem box_row{bx:Boxes}(hB:RepB w G β bx){j k:Nat}{v:Value}{row:List AV}(hp:RepE w G β (.fp j k) v)(hr:bx[j]?=some row) :
  ∃g b c e,β[j]?=some g/\g.blk=some b/\v=.pointer (some ⟨b,k,none⟩)/\BoxAt w G row g/\w.heap[b]?=some (.cells c e (0,0))/\row.length<=c.size/\G.tip b=some 0/\∀(k:Nat) x,g.vals[k]?=some x->w.cell? ⟨b,k,none⟩=some x:=by
 obtain⟨g,b,h1,h2,h3⟩:=hp
 have hb:=hB.box j row g hr h1
 rcases hb.lies with⟨h0,_⟩|⟨b',c,e,h4,h5,h6,h7,h8⟩
 ·rw[h0]at h2;cases h2
 ·rw[h2]at h4;cases h4
  exact⟨g,b,c,e,h1,h2,h3,hb,h5,h6,h7,h8⟩
theorem q_storeF{t:TypeId}{x y:Operand}{j0 n:Nat}(ho:o.op=.store t x y)(hn:cellsIs P t n=true){st:Store}{bx:Boxes}(hI:Inv w G st)(hB:RepB w G β bx){cO:Nat->Nat}(hX:∀b,cO b+cntB b β bx+cntS b G.ls st<=1)
  {p v:Ent}(hp:RepE w G β p (ρ x))(hv:RepE w G β v (ρ y))(hcs:∀b,cntE b v (ρ y)<=cO b){wl lim:Nat}{st':Store}{bx':Boxes}{r:Ent}(ha:act0 wl lim (.storeF j0 n) [p,v] st bx=some (r,st',bx')) :
  ∃w' G' β',(execOp ρ o).run P w=.ok .skip w'/\Act1 w G β st bx cO w' G' β' st' bx' r undef/\BxStep none β β':=by
 unfold act0 at ha
 simp only at ha
 split at ha
 ·rename_i j k v heq
  cases heq
  split at ha
  ·rename_i hcond
   simp only[Bool.and_eq_true,decide_eq_true_eq]at hcond
   obtain⟨⟨rfl,hvn⟩,hvc⟩:=hcond
   split at ha
   ·rename_i row hr
    split at ha
    ·rename_i hfit
     cases ha
     obtain⟨g,b,c,e,hg,hblk,hpv,hbox,hheap,hle,htip,hcells⟩:=box_row hB hp hr
     obtain⟨hcv,hcn⟩:=RepV.cells hv
     have hyl:(ρ y).cells.toList.length=n:=by rw[<-hvn];exact hcv.1.symm
     have hin:k+(ρ y).cells.toList.length<=c.size:=by omega
     have hst1:=run_storeCells_paste (P:=P) b k e (ρ y).cells.toList c w hheap hin (hcv.ones hvc)
     have hW:Wr w G (w.setRow b (paste c.toList k (ρ y).cells.toList).toArray) ⟨G.ls,fun b'=>if b'=b then some 0 else G.tip b'⟩ b:=wr_row hheap hin htip (Nat.zero_le _) (Nat.le_refl _) (ids_refl G)
     have hone:cO b=0/\cntL b row g.vals=0:=by
      have h1:=hX b
      have h2:=cntB_get b β bx j0 g row hg hr
      rw[if_pos hblk]at h2
      omega
     refine⟨_,⟨G.ls,fun b'=>if b'=b then some 0 else G.tip b'⟩,β.set j0 ⟨g.blk,paste g.vals k (ρ y).cells.toList⟩,?_,act_boxset hI hB hX hg hr rfl hW.stp rfl ⟨?_,allCells_paste hbox.cel hvc (by rw[hvn];exact hfit),.inr ⟨b,_,e,hblk,setRow_heap w b c _ e (0,0) hheap,?_,by simp,fun i z hz=>?_⟩⟩ (hW.tips hI) (fun b' _ hb'=>hW.untouched fun e=>hb' (by rw[hblk,e])) (by simp) rfl rfl trivial fun b'=>?_,BxStep.set hg fun _=>rfl⟩
     ·have hsz:(ρ y).cells.size=n:=by simpa using hyl
      simp only[execOp,ho,hpv,Sem.run_bind,Instr.storeAt,Instr.sureAddr,Sem.run_pure,Result.andThen_ok,storeVar,run_sizeOf_is hn,hsz,ne_eq,not_true_eq_false,if_false,hst1]
     ·refine(hbox.rep.mono hW.stp fun b' hb'=>hW.untouched fun e=>?_).paste (hcv.mono hW.stp fun b' hb'=>hW.untouched fun e=>?_) (by rw[hvn];exact hfit)
      ·subst e;omega
      ·subst e
       rw[hcn]at hb'
       have:=hcs b'
       simp only[cntE]at this
       omega
     ·rw[paste_length,List.size_toArray,paste_length];simpa using hle
     ·rw[setRow_cell hheap hin]
      simp only at hz
      rw[paste_get _ _ _ _ (by rw[hyl];rw[<-hbox.rep.1];exact hfit)]at hz
      split at hz
      ·rename_i hi;rw[if_pos hi];exact hz
      ·rename_i hi;rw[if_neg hi];exact hcells i z hz
     ·have h2:=cntL_paste b' row v.cells g.vals (ρ y).cells.toList k hbox.rep.1 hcv.1 (by rw[hvn];exact hfit)
      have h3:=hcs b'
      rw[hcn]at h2
      simp only[cntE]at h3 ⊢
      omega
    ·cases ha
   ·cases ha
  ·cases ha
 ·cases ha
theorem q_loadF{t:TypeId}{x:Operand}{j0 n:Nat}{agg take:Bool}(ho:o.op=.load t x)(hn:cellsIs P t n=true)(hagg:isAggT P t=some agg)(hone:agg=false->n=1){st:Store}{bx:Boxes}(hI:Inv w G st)(hB:RepB w G β bx){cO:Nat->Nat}(hX:∀b,cO b+cntB b β bx+cntS b G.ls st<=1)
  {p:Ent}(hp:RepE w G β p (ρ x)){wl lim:Nat}{st':Store}{bx':Boxes}{r:Ent}(ha:act0 wl lim (.loadF j0 agg n take) [p] st bx=some (r,st',bx')) :
  ∃v,(execOp ρ o).run P w=.ok (.value v) w/\Act1 w G β st bx cO w G β st' bx' r v:=by
 unfold act0 at ha
 simp only at ha
 split at ha
 ·rename_i j k heq
  cases heq
  split at ha
  ·rename_i hj
   subst hj
   split at ha
   ·rename_i row hr
    split at ha
    ·rename_i cs hcut
     obtain⟨g,b,c,e,hg,hblk,hpv,hbox,hheap,hle,htip,hcells⟩:=box_row hB hp hr
     obtain⟨hcs,hle2,hl2⟩:=cut_some hcut
     have hxl:g.vals.length=row.length:=hbox.rep.1.symm
     have hylen:((g.vals.drop k).take n).length=n:=by simp;omega
     have hrep:RepC w G cs ((g.vals.drop k).take n):=by rw[hcs];exact(hbox.rep.drop k).take n
     have hcell:∀(j:Nat) y,((g.vals.drop k).take n)[j]?=some y->w.cell? ⟨b,k+j,none⟩=some y:=fun j z hz=>by
      rw[List.getElem?_take]at hz
      split at hz
      ·rw[List.getElem?_drop]at hz;exact hcells _ z hz
      ·cases hz
     split at ha
     ·split at ha
      ·rename_i v hv
       cases ha
       obtain⟨u,h1,h2,h3⟩:=q_load ho hn hagg hone hpv hylen hrep hcell hv
       obtain⟨t1,t2,t3⟩:=took_row hbox.rep hcut hbox.cel
       have:=act_boxset (e:=.val v) (v:=u) (g':=g) (row':=paste row k (cs.map AV.took)) hI hB hX hg hr rfl (Stp.refl w G) rfl ⟨t1,t2,.inr ⟨b,c,e,hblk,hheap,by rw[paste_length];exact hle,htip,hcells⟩⟩ hI.tips (fun b _ _=>⟨rfl,rfl⟩) (Nat.le_refl _) rfl rfl h2 fun b'=>by
        have h4:=t3 b'
        have h5:=h3 b'
        simp only[cntE]
        omega
       rw[set_self _ _ _ hg]at this
       exact⟨u,h1,this⟩
      ·cases ha
     ·split at ha
      ·rename_i v hv
       cases ha
       obtain⟨u,h1,h2,h3⟩:=q_load ho hn hagg hone hpv hylen hrep.view hcell hv
       refine⟨u,h1,Act1.quiet hI hB h2 fun d=>?_⟩
       simp only[cntE,h3 d]
       rw[cntL_noOwn d _ _ (noOwn_viewL cs)]
       omega
      ·cases ha
    ·cases ha
   ·cases ha
  ·cases ha
 ·cases ha
theorem cntLL_take(b:Nat):∀(n:Nat)(rs:List (List AV))(xs:List (List Value)),cntLL b (rs.take n) (xs.take n)<=cntLL b rs xs
 |0,rs,xs=>by simp[cntLL]
 |n+1,[],xs=>by simp[cntLL]
 |n+1,r::rs,[]=>by simp[cntLL]
 |n+1,r::rs,x::xs=>by
  have:=cntLL_take b n rs xs
  simp only[List.take_succ_cons,cntLL];omega
theorem q_sliceM{t e:TypeId}{x hi:Operand}{sz:Nat}(ho:o.op=.slice t x none (some hi) none)(hu:P.underlying t=some (.slice e))(hsz:cellsIs P e sz=true){st:Store}{bx:Boxes}(hI:Inv w G st)(hB:RepB w G β bx){cO:Nat->Nat}(hX:∀b,cO b+cntB b β bx+cntS b G.ls st<=1)
  {a h:AV}(ha:RepV w G a (ρ x))(hh:RepV w G h (ρ hi)){wl lim:Nat}{st':Store}{bx':Boxes}{r:Ent}(hact:act0 wl lim (.sliceM sz) [.val a,.val h] st bx=some (r,st',bx')) :
  ∃v G',(execOp ρ o).run P w=.ok (.value v) w/\Act1 w G β st bx cO w G' β st' bx' r v:=by
 unfold act0 at hact
 simp only at hact
 split at hact
 ·rename_i id ver n heq
  cases heq
  split at hact
  ·rename_i v s rows hst
   split at hact
   ·rename_i hc
    simp only[Bool.and_eq_true,decide_eq_true_eq]at hc
    obtain⟨⟨⟨⟨rfl,rfl⟩,h0⟩,h1⟩,_⟩:=hc
    cases hact
    obtain⟨loc,hl,hmp,hlv,hra⟩:=hI.loc hst
    generalize hxv:ρ x=xv at ha
    cases ha with
    |mu _ _ _ loc' hp hl' hv' he=>
    rw[hl]at hl';cases hl'
    have hval:=he (by omega)
    subst hval
    have hcap:rows.length<=loc.cap:=by
     rcases hra.lies with⟨h0,h1,_⟩|⟨b,off,c,e',hla,hcap,hheap,hsz,hlen,htip,hcells⟩
     ·rw[h1];simp
     ·exact hlen
    have hhv:=hh.int_inv
    have hrun:(execOp ρ o).run P w=.ok (.value (.slice loc.a n.toNat loc.cap)) w:=by
     simp only[execOp,ho,hxv,Sem.run_bind]
     have hb:(Instr.sliceBounds true loc.len loc.cap none (some (ρ hi)) none).run P w=.ok (0,n.toNat,loc.cap) w:=by
      have:=run_sliceBounds (P:=P) (isS:=true) (len:=loc.len) (cap:=loc.cap) (lo:=none) (hi:=some hi) (ρ:=ρ) (a:=0) (b:=n) (.inl ⟨rfl,rfl⟩) (.inr ⟨hi,rfl,hhv⟩) (by omega) h0 (by omega) w
      simpa using this
     simp only[Instr.sliceAt,Sem.run_bind,run_underlying hu,Result.andThen_ok,Instr.slice,Option.map_none,Option.map_some,hb,run_sizeOf_is hsz,Sem.run_pure]
     rcases hra.lies with⟨h0,h1,_⟩|⟨b,off,c,e',hla,hcap,hheap,hsz,hlen,htip,hcells⟩
     ·simp[h0]
     ·simp[hla,addr_add,show ¬loc.cap=0 by omega]
    have hs':Stp w G w (G.at id ⟨loc.a,loc.cap,n.toNat,loc.sz,v+1,false,loc.vals.take n.toNat⟩):=stp_at hl (by simp;omega) fun h=>by rcases h with h|h<;>simp_all<;>omega
    refine⟨_,_,hrun,act_set (loc':=⟨loc.a,loc.cap,n.toNat,loc.sz,v+1,false,loc.vals.take n.toNat⟩) hI hB hX hl hst hs' rfl ⟨rfl,rfl,?_⟩ hI.tips (fun b _ _=>⟨rfl,rfl⟩) (Nat.le_refl _) rfl rfl (.mu _ _ _ _ ⟨_,_,_,rfl⟩ (by simp only[Ghost.at];rw[List.getElem?_set,if_pos rfl,if_pos (List.getElem?_eq_some_iff.1 hl).1]) (Nat.le_refl _) fun _=>rfl) fun b=>?_⟩
    ·have hold:=RepO.stp (w':=w) (show RepO w G (.rows v s rows) loc from⟨hmp,hlv,hra⟩) hs' fun b _=>⟨rfl,rfl⟩
     obtain⟨_,_,h3⟩:=hold
     refine⟨fits_iff.2 fun r hr=>fits_iff.1 h3.fit r (List.mem_of_mem_take hr),fun r hr=>h3.cel r (List.mem_of_mem_take hr),by simp;omega,h3.size,by simp[h3.vlen],fun i r xs e1 e2=>?_,?_⟩
     ·simp only at e2
      rw[List.getElem?_take]at e1 e2
      split at e1
      ·rename_i hlt;rw[if_pos hlt]at e2;exact h3.reps i r xs e1 e2
      ·cases e1
     ·rcases h3.lies with⟨h0,h1,h2⟩|⟨b,off,c,e',hla,hcap,hheap,hsz,hlen,htip,hcells⟩
      ·exact .inl ⟨h0,by rw[h1];simp,h2⟩
      ·refine .inr ⟨b,off,c,e',hla,hcap,hheap,hsz,by simp;omega,htip,fun i xs j z e1 e2=>?_⟩
       simp only at e1
       rw[List.getElem?_take]at e1
       split at e1
       ·exact hcells i xs j z e1 e2
       ·cases e1
    ·have h2:=cntLL_take b n.toNat rows loc.vals
     simp only[cntE,cnt]
     show 0+((if loc.blk=some b then 1 else 0)+cntLL b (rows.take n.toNat) (loc.vals.take n.toNat))<=cO b+((if loc.blk=some b then 1 else 0)+cntLL b rows loc.vals)+_
     omega
   ·cases hact
  ·cases hact
 ·cases hact
end Ax
namespace Ax
open Go
variable {P:Program}{w w':World}{G G':Ghost}{β β':List BxG}{ρ:Operand->Value}{o:Oper}
theorem run_setObj{r:Nat}{es:Array MapEntry}{clock:Nat}{ob:Obj}(h:w.heap[r]?=some (.map es clock)):(setObj r ob).run P w=.ok () { w with heap:=w.heap.setIfInBounds r ob }:=by
 simp[setObj,Sem.run,h]
theorem put_ok{t:TypeId}{kk:SK}(ht:keyT P t kk=true){k v:AV}{x y:Value}(hk:RepV w G k x)(hv:RepV w G v y)(hkn:k.noOwn=true)(hvn:v.noOwn=true):∀(es es':List (AV×AV))(fs:List MapEntry),RepM w G es fs->putV kk k v es=some es'->
  (∃i e u,findV kk k es=some (some u)/\fs[i]?=some e/\(∀(q:Option (Nat×Value)),(Instr.findKey t x fs).run P w=.ok q w->∃val,q=some (i,val))/\eqS kk k (es[i]?.map (·.1) |>.getD .undef)=some true/\(∃a,es[i]?=some a/\RepV w G a.1 e.key)/\RepM w G es' (fs.set i { e with key:=x,val:=y }))\/
  (findV kk k es=some none/\∀born,RepM w G es' (fs++[{ key:=x,val:=y,born:=born }])):=by
 have hu:∃d,P.underlying t=some d:=by
  unfold keyT at ht
  cases kk<;>simp only at ht<;>split at ht<;>(try cases ht)<;>exact⟨_,by assumption⟩
 obtain⟨d,hu⟩:=hu
 intro es
 induction es with
 |nil=>
  intro es' fs hM h
  simp only[putV,Option.some.injEq]at h
  subst h
  have h0:fs=[]:=List.eq_nil_of_length_eq_zero (by simpa using hM.1)
  subst h0
  refine .inr ⟨rfl,fun born=>⟨rfl,fun i a b e h1 h2=>?_⟩⟩
  cases i with
  |zero=>simp at h1 h2;obtain⟨rfl,rfl⟩:=h1;subst h2;exact⟨hk,hv,hvn,hkn⟩
  |succ i=>simp at h1
 |cons c es ih=>
  intro es' fs hM h
  obtain⟨a,u⟩:=c
  cases fs with
  |nil=>have:=hM.1;simp at this
  |cons f fs=>
   obtain⟨g1,g2,g3,g4⟩:=hM.2 0 a u f rfl rfl
   simp only[putV]at h
   split at h
   ·rename_i he
    cases h
    refine .inl ⟨0,f,u,by simp[findV,he],rfl,fun q hq=>?_,by simpa using he,⟨(a,u),rfl,g1⟩,?_⟩
    ·have hs:=sameNow_ok ht hu he hk g1
     have:(Instr.findKey t x (f::fs)).run P w=.ok (some (0,f.val)) w:=by simp[Instr.findKey,run_underlying hu,Instr.findNow,hs]
     rw[this]at hq;cases hq;exact⟨_,rfl⟩
    ·refine⟨by simpa using hM.1,fun i p q e h1 h2=>?_⟩
     cases i with
     |zero=>simp at h1 h2;obtain⟨rfl,rfl⟩:=h1;subst h2;exact⟨hk,hv,hvn,hkn⟩
     |succ i=>exact hM.2 (i+1) p q e (by simpa using h1) (by simpa using h2)
   ·rename_i he
    split at h
    ·rename_i r' hr'
     cases h
     have hs:=sameNow_ok ht hu he hk g1
     have hlift:∀es2 fs2,RepM w G es2 fs2->RepM w G ((a,u)::es2) (f::fs2):=fun es2 fs2 h2=>⟨by simp[h2.1],fun i p q e e1 e2=>by
      cases i with
      |zero=>simp at e1 e2;obtain⟨rfl,rfl⟩:=e1;subst e2;exact⟨g1,g2,g3,g4⟩
      |succ i=>exact h2.2 i p q e (by simpa using e1) (by simpa using e2)⟩
     rcases ih r' fs hM.tail hr' with⟨i,e,u',f1,f2,f3,f4,f5,f6⟩|⟨f1,f2⟩
     ·refine .inl ⟨i+1,e,u',by simp[findV,he,f1],by simpa using f2,fun q hq=>?_,by simpa using f4,by simpa using f5,by simpa using hlift _ _ f6⟩
      obtain⟨q0,e1,e2⟩:=findNow_ok ht hu hk es fs 0 _ hM.tail f1
      obtain⟨q1,e3,e4⟩:=findNow_ok ht hu hk es fs 1 _ hM.tail f1
      obtain⟨j0,e0,a1,_⟩:=e2
      obtain⟨j1,e0',b1,b2,_⟩:=e4
      have h0:(Instr.findKey t x fs).run P w=.ok q0 w:=by simp[Instr.findKey,run_underlying hu,e1]
      obtain⟨val,hval⟩:=f3 q0 h0
      have:(Instr.findKey t x (f::fs)).run P w=.ok q1 w:=by simp[Instr.findKey,run_underlying hu,Instr.findNow,hs,e3]
      rw[this]at hq;cases hq
      have key:∀(fs:List MapEntry) (s:Nat) (q:Option (Nat×Value)),Instr.findNow d x fs s=some q->Instr.findNow d x fs (s+1)=some (q.map fun z=>(z.1+1,z.2)):=by
       intro fs
       induction fs with
       |nil=>intro s q h;simp[Instr.findNow]at h ⊢;subst h;rfl
       |cons f fs ih=>
        intro s q h
        simp only[Instr.findNow]at h ⊢
        cases hsn:Instr.sameNow d x f.key with
        |none=>rw[hsn]at h;simp at h
        |some b=>
         rw[hsn]at h
         cases b with
         |true=>simp at h ⊢;subst h;rfl
         |false=>simp at h ⊢;exact ih _ _ h
      have h3:=key fs 0 q0 e1
      rw[Nat.zero_add]at h3
      rw[e3]at h3
      cases h3
      rw[hval]
      exact⟨val,rfl⟩
     ·exact .inr ⟨by simp[findV,he,f1],fun born=>hlift _ _ (f2 born)⟩
    ·cases h
   ·cases h
theorem sameBits_of{kk:SK}{a b:AV}{x y:Value}(h:eqS kk a b=some true)(ha:RepV w G a x)(hb:RepV w G b y)(n:Nat):Instr.sameBits n y x=true:=by
 unfold eqS at h
 split at h
 ·simp only[Option.some.injEq,beq_iff_eq]at h
  rw[ha.bool_inv,hb.bool_inv,h];simp[Instr.sameBits]
 ·split at h
  ·rename_i hkl
   subst hkl
   simp only[Option.some.injEq,beq_iff_eq]at h
   rw[ha.int_inv,hb.int_inv,h];simp[Instr.sameBits]
  ·cases h
 ·simp only[Option.some.injEq,beq_iff_eq]at h
  obtain⟨s,rfl,rfl⟩:=ha.str_inv
  obtain⟨s',rfl,h2⟩:=hb.str_inv
  have:s=s':=ByteArray.ext (Array.toList_inj.1 (h.trans h2.symm))
  subst this
  simp only[Instr.sameBits]
  rw[beq_toListBytes];exact beq_self_eq_true _
 ·cases h
theorem q_mapUpdate{t kt et:TypeId}{m k x:Operand}(ho:o.op=.mapUpdate t m k x\/o.op=.insert t m k x)(hu:P.underlying t=some (.map kt et)){kk:SK}(ht:keyT P kt kk=true){st:Store}{bx:Boxes}(hI:Inv w G st)(hB:RepB w G β bx){cO:Nat->Nat}(hX:∀b,cO b+cntB b β bx+cntS b G.ls st<=1)
  {am ak av:AV}(hm:RepV w G am (ρ m))(hk:RepV w G ak (ρ k))(hv:RepV w G av (ρ x)){wl lim:Nat}{st':Store}{bx':Boxes}{r:Ent}(ha:act0 wl lim (.mapUpdate kk) [.val am,.val ak,.val av] st bx=some (r,st',bx')) :
  ∃w' G',(execOp ρ o).run P w=.ok .skip w'/\Act1 w G β st bx cO w' G' β st' bx' r undef:=by
 unfold act0 at ha
 simp only at ha
 split at ha
 ·rename_i id k0 v0 heq
  cases heq
  split at ha
  ·rename_i es hst
   split at ha
   ·rename_i hcond
    simp only[Bool.and_eq_true]at hcond
    split at ha
    ·rename_i es' hput
     cases ha
     have hkn:ak.noOwn=true:=by
      have:=hcond.1
      unfold isKey at this
      split at this<;>first|rfl|cases this
     obtain⟨loc,hl,ho'⟩:=hI.loc hst
     obtain⟨g1,g2,b,fs,clock,g3,g4,g5,g6,g7⟩:=ho'
     have hmv:ρ m=.map (some b):=by
      generalize ρ m=mv at hm
      cases hm with
      |map _ loc' bk hl' hmp hb'=>rw[hl]at hl';cases hl';rw[hb']at g3;cases g3;rfl
     have hblk:loc.blk=some b:=by unfold Loc.blk;rw[if_neg (by omega),g3];rfl
     have hM:RepM w G es fs.toList:=⟨by simpa using g6,fun i a v e e1 e2=>g7 i a v e e1 (by simpa using e2)⟩
     have hgo:(getObj b).run P w=.ok (.map fs clock) w:=by simp[getObj,Sem.run,g4]
     have hck:=run_checkKey (w:=w) ht false 9999 (ρ k)
     have fin:∀(fs':Array MapEntry) (clock':Nat),RepM w G es' fs'.toList->
       Act1 w G β st bx cO { w with heap:=w.heap.setIfInBounds b (.map fs' clock') } ⟨(G.at id loc).ls,fun b'=>if b'=b then some 0 else G.tip b'⟩ β (st.set id (.map es')) bx .none undef:=by
      intro fs' clock' hM'
      have hlt:b<w.heap.size:=(Array.getElem?_eq_some_iff.1 g4).1
      have hW:Wr w G { w with heap:=w.heap.setIfInBounds b (.map fs' clock') } ⟨(G.at id loc).ls,fun b'=>if b'=b then some 0 else G.tip b'⟩ b:=
       ⟨by simp,fun b' hb'=>by simp only[Array.getElem?_setIfInBounds];rw[if_neg fun e=>hb' e.symm],fun b' hb'=>by simp[hb'],⟨0,0,g5,by simp,Nat.le_refl _,fun o ho=>by omega⟩,ids_at hl (Nat.le_refl _) fun _=>rfl⟩
      refine act_set hI hB hX hl hst hW.stp rfl ⟨g1,g2,b,fs',clock',g3,?_,by simp,by simpa using hM'.1,fun i a v e e1 e2=>?_⟩ (hW.tips hI) (fun b' _ hb'=>hW.untouched fun e=>hb' (by rw[hblk,e])) (by simp) rfl rfl trivial fun b'=>by simp only[cntE,cntO];omega
      ·simp only[Array.getElem?_setIfInBounds];rw[if_pos trivial,if_pos hlt]
      ·obtain⟨h1,h2,h3,h4⟩:=hM'.2 i a v e e1 (by simpa using e2)
       exact⟨h1.stp hW.stp fun b hb=>by rw[cnt_noOwn b a _ h4]at hb;omega,h2.stp hW.stp fun b hb=>by rw[cnt_noOwn b v _ h3]at hb;omega,h3,h4⟩
     have head:∀(w':World),(Instr.mapUpdate t (.map (some b)) (ρ k) (ρ x)).run P w=.ok () w'->(execOp ρ o).run P w=.ok .skip w':=by
      intro w' h
      rcases ho with ho|ho<;>simp only[execOp,ho,hmv,Sem.run_bind,h,Result.andThen_ok,Sem.run_pure]
     rcases put_ok ht hk hv.view hkn (noOwn_view av) es es' fs.toList hM hput with⟨i,e,u,f1,f2,f3,f4,⟨a,f5,f6⟩,f7⟩|⟨f1,f2⟩
     ·obtain⟨q,e1,e2⟩:=run_findKey ht hk hM f1 w
      obtain⟨val,rfl⟩:=f3 q e1
      have hfi:fs[i]?=some e:=by simpa using f2
      refine⟨_,_,head _ ?_,fin (fs.modify i fun e=>{ e with key:=ρ k,val:=ρ x }) clock ?_⟩
      ·rw[f5]at f4
       have hsb:=sameBits_of f4 hk f6 10000
       simp only[Instr.mapUpdate,Sem.run_bind,run_underlying hu,Result.andThen_ok,hgo,hck,e1,hfi,Option.map_some,Option.getD_some,Instr.keyThatStays,hsb,if_true,Sem.run_pure,run_setObj g4]
      ·have:(fs.modify i fun e=>{ e with key:=ρ k,val:=ρ x }).toList=fs.toList.set i { e with key:=ρ k,val:=ρ x }:=by
        rw[Array.toList_modify]
        apply List.ext_getElem?
        intro j
        rw[List.getElem?_modify,List.getElem?_set]
        by_cases hij:i=j
        ·subst hij
         simp[(Array.getElem?_eq_some_iff.1 hfi).1,(Array.getElem?_eq_some_iff.1 hfi).2]
        ·simp[hij]
       rw[this]
       exact f7
     ·obtain⟨q,e1,e2⟩:=run_findKey ht hk hM f1 w
      simp only at e2
      subst e2
      refine⟨_,_,head _ ?_,fin (fs.push { key:=ρ k,val:=ρ x,born:=clock }) (clock+1) (by rw[Array.toList_push];exact f2 clock)⟩
      simp only[Instr.mapUpdate,Sem.run_bind,run_underlying hu,Result.andThen_ok,hgo,hck,e1,run_setObj g4]
    ·cases ha
   ·cases ha
  ·cases ha
 ·cases ha
end Ax
namespace Ax
open Go
variable {P:Program}{w w':World}{G G':Ghost}{β β':List BxG}{ρ:Operand->Value}{o:Oper}
structure Frz (w:World)(G:Ghost)(st:Store)(G':Ghost)(st':Store):Prop where
 stp:Stp w G w G'
 inv:Inv w G' st'
 cnt:∀b,cntS b G'.ls st'<=cntS b G.ls st
 far:∀b,cntS b G.ls st=0->G'.tip b=G.tip b
theorem Frz.refl{st:Store}(hI:Inv w G st):Frz w G st G st:=⟨Stp.refl w G,hI,fun _=>Nat.le_refl _,fun _ _=>rfl⟩
theorem Frz.trans{G1 G2:Ghost}{st st1 st2:Store}(h:Frz w G st G1 st1)(k:Frz w G1 st1 G2 st2):Frz w G st G2 st2:=
 ⟨h.stp.trans k.stp,k.inv,fun b=>Nat.le_trans (k.cnt b) (h.cnt b),fun b hb=>(k.far b (by have:=h.cnt b;omega)).trans (h.far b hb)⟩
mutual
theorem isPure_view:∀a:AV,a.isPure=true->a.view.isPure=true
 |.own _ _,_=>by simp[AV.view,AV.isPure]
 |.raw _ _,_=>by simp[AV.view,AV.isPure]
 |.agg cs,h=>by simp only[AV.view,AV.isPure]at *;exact allPure_viewL cs h
 |.tup cs,h=>by simp only[AV.view,AV.isPure]at *;exact allPure_viewL cs h
 |.undef,h|.gone,h|.bool _,h|.int _ _,h|.str _,h|.nilPtr,h|.nilSl,h|.nilMap,h|.nilFn,h|.nilIf,h|.lst _ _,h|.emp,h|.mu _ _,h|.ptr _ _ _ _,h|.pel _ _ _ _,h|.map _,h|.fn _ _ _,h=>by simpa [AV.view] using h
theorem allPure_viewL:∀cs:List AV,AV.allPure cs=true->AV.allPure (AV.viewL cs)=true
 |[],_=>rfl
 |c::cs,h=>by
  simp only[AV.allPure,Bool.and_eq_true]at h
  simp only[AV.viewL,AV.allPure,isPure_view c h.1,allPure_viewL cs h.2,Bool.and_self]
end
theorem RepV.noOwn_stp{a:AV}{v:Value}(h:RepV w G a v)(hs:Stp w G w' G')(hn:a.noOwn=true):RepV w' G' a v:=h.stp hs fun b hb=>by rw[cnt_noOwn b a v hn]at hb;omega
def emptied(sz ver:Nat):Loc:=⟨some ⟨0,0,none⟩,0,0,sz,ver+1,false,[]⟩
theorem repO_emptied(sz ver:Nat):RepO w G (.rows (ver+1) sz []) (emptied sz ver):=
 ⟨rfl,rfl,by simp[fits],by simp,rfl,rfl,rfl,fun i r xs h=>by simp at h,.inl ⟨rfl,rfl,rfl⟩⟩
theorem frz_empty{st:Store}(hI:Inv w G st){id ver sz:Nat}{rows:List (List AV)}{loc:Loc}(hst:st[id]?=some (.rows ver sz rows))(hl:G.ls[id]?=some loc)(hmp:loc.mp=false)(hlv:loc.ver=ver) :
  Frz w G st (G.at id (emptied sz ver)) (st.set id (.rows (ver+1) sz []))/\∀b,cntS b (G.at id (emptied sz ver)).ls (st.set id (.rows (ver+1) sz []))+cntO b loc (.rows ver sz rows)=cntS b G.ls st:=by
 have hs:Stp w G w (G.at id (emptied sz ver)):=stp_at hl (by simp only[emptied];omega) fun h=>by
  rcases h with h|h
  ·simp only[emptied]at h;omega
  ·rw[hmp]at h;cases h
 have hc:∀b,cntS b (G.at id (emptied sz ver)).ls (st.set id (.rows (ver+1) sz []))+cntO b loc (.rows ver sz rows)=cntS b G.ls st:=fun b=>by
  have:=cntS_set b G.ls st id loc _ (emptied sz ver) (.rows (ver+1) sz []) hl hst
  have h0:cntO b (emptied sz ver) (.rows (ver+1) sz [])=0:=by simp[cntO,emptied,Loc.blk,cntLL]
  rw[h0]at this
  exact this
 exact⟨⟨hs,inv_set hI hs rfl (fun _ _ _ b _ _ _ _=>⟨rfl,rfl⟩) (repO_emptied sz ver) hI.tips,fun b=>by have:=hc b;omega,fun _ _=>rfl⟩,hc⟩
def Ghost.shut(G:Ghost)(b:Nat):Ghost:=⟨G.ls,fun b'=>if b'=b then none else G.tip b'⟩
theorem frz_shut{st:Store}(hI:Inv w G st){b:Nat}(hb:G.tip b=some 0)(h0:cntS b G.ls st=0):Stp w G w (G.shut b)/\Inv w (G.shut b) st:=by
 have hs:Stp w G w (G.shut b):=⟨fun b' o hi=>⟨rfl,hi.1,fun p hp=>by
  simp only[Ghost.shut]at hp
  split at hp
  ·cases hp
  ·exact hi.2 p hp⟩,ids_refl G⟩
 refine⟨hs,inv_keep hI hs rfl (fun b' hb'=>⟨?_,rfl⟩) fun b' p hp=>?_⟩
 ·simp only[Ghost.shut];rw[if_neg];intro e;subst e;omega
 ·simp only[Ghost.shut]at hp
  split at hp
  ·cases hp
  ·exact hI.tips b' p hp
theorem rep_shut{sz b off cap:Nat}{rows:List (List AV)}{vals:List (List Value)}(hfit:fits sz rows=true)(hcel:∀r∈rows,AV.allCells r=true)(hno:∀r∈rows,AV.noOwnL r=true)(hpu:∀r∈rows,AV.allPure r=true)
  (hlen:vals.length=rows.length)(hreps:∀(i:Nat) r xs,rows[i]?=some r->vals[i]?=some xs->RepC w G r xs)(hcap:rows.length<=cap)(hb:b<w.heap.size)(ht:G.tip b=none)
  (hcells:∀(i:Nat) xs (j:Nat) x,vals[i]?=some xs->xs[j]?=some x->w.cell? ⟨b,off+(i*sz+j),none⟩=some x):RepV w G (.lst sz rows) (.slice (some ⟨b,off,none⟩) rows.length cap):=by
 have key:∀(i:Nat) r (j:Nat) c,rows[i]?=some r->r[j]?=some c->∃v,w.cell? ⟨b,off+(i*sz+j),none⟩=some v/\RepV w G c v:=by
  intro i r j c h1 h2
  have hi:i<vals.length:=by rw[hlen];exact(List.getElem?_eq_some_iff.1 h1).1
  have hv:=List.getElem?_eq_getElem hi
  obtain⟨e1,e2⟩:=hreps i r _ h1 hv
  have hj:j<vals[i].length:=by rw[<-e1];exact(List.getElem?_eq_some_iff.1 h2).1
  exact⟨_,hcells i _ j _ hv (List.getElem?_eq_getElem hj),e2 j c _ h2 (List.getElem?_eq_getElem hj)⟩
 refine .lst sz rows ⟨b,off,none⟩ cap rfl hcap hfit hno hpu hcel (fun i r j c h1 h2=>⟨⟨hb,fun p hp=>by simp only at hp;rw[ht]at hp;cases hp⟩,?_⟩) fun i r j c v h1 h2 h3=>?_
 ·obtain⟨v,h,_⟩:=key i r j c h1 h2;exact⟨v,h⟩
 ·obtain⟨v',h,h'⟩:=key i r j c h1 h2
  rw[h]at h3;cases h3;exact h'
theorem freezeC_ok{wl:Nat}{st st':Store}{a a':AV}{v:Value}(hI:Inv w G st)(hX:∀b,cntS b G.ls st<=1)(h:RepV w G a v)(hf:freezeC wl a st=some (a',st')) :
  ∃G',Frz w G st G' st'/\RepV w G' a' v/\a'.noOwn=true/\a'.isPure=true/\a'.isCell=true:=by
 unfold freezeC at hf
 split at hf
 ·rename_i id ver
  split at hf
  ·rename_i v0 sz rows hst
   split at hf
   ·rename_i hc
    simp only[Bool.and_eq_true,decide_eq_true_eq,Bool.not_eq_true',List.all_eq_true]at hc
    obtain⟨⟨⟨rfl,hpu⟩,hne⟩,_⟩:=hc
    cases hf
    obtain⟨loc,hl,hmp,hlv,hra⟩:=hI.loc hst
    cases h with
    |mu _ _ _ loc' hp hl' hv' he=>
    rw[hl]at hl';cases hl'
    have hval:=he (by omega)
    subst hval
    rcases hra.lies with⟨_,hnil,_⟩|⟨b,off,c,e',hla,hcap,hheap,hsz,hlen,htip,hcells⟩
    ·subst hnil;simp at hne
    obtain⟨f1,f2⟩:=frz_empty hI hst hl hmp hlv
    have hblk:loc.blk=some b:=by unfold Loc.blk;rw[if_neg (by omega),hla];rfl
    have h0:cntS b (G.at id (emptied sz v0)).ls (st.set id (.rows (v0+1) sz []))=0:=by
     have h1:=f2 b
     have h2:=hX b
     simp only[cntO,hblk,if_true]at h1
     omega
    obtain⟨g1,g2⟩:=frz_shut f1.inv (b:=b) (by exact htip) h0
    refine⟨(G.at id (emptied sz v0)).shut b,⟨f1.stp.trans g1,g2,f1.cnt,fun b' hb'=>?_⟩,?_,by simp[AV.noOwn],by simp[AV.isPure],by simp[AV.isCell]⟩
    ·simp only[Ghost.shut,Ghost.at]
     rw[if_neg]
     intro e;subst e
     have h1:=f2 b'
     simp only[cntO,hblk,if_true]at h1
     omega
    ·rw[hla,hra.len,show rows.length=(rows.map AV.viewL).length by simp]
     refine rep_shut (vals:=loc.vals) (fits_iff.2 fun r hr=>?_) (fun r hr=>?_) (fun r hr=>?_) (fun r hr=>?_) (by simpa using hra.vlen) (fun i r xs h1 h2=>?_) (by simpa using hlen) (Array.getElem?_eq_some_iff.1 hheap).1 (by simp[Ghost.shut]) hcells
     ·obtain⟨r',hr',rfl⟩:=List.mem_map.1 hr
      rw[viewL_length];exact fits_iff.1 hra.fit r' hr'
     ·obtain⟨r',hr',rfl⟩:=List.mem_map.1 hr
      rw[allCells_viewL];exact hra.cel r' hr'
     ·obtain⟨r',hr',rfl⟩:=List.mem_map.1 hr
      exact noOwn_viewL r'
     ·obtain⟨r',hr',rfl⟩:=List.mem_map.1 hr
      exact allPure_viewL r' (hpu r' hr')
     ·simp only[List.getElem?_map,Option.map_eq_some_iff]at h1
      obtain⟨r',h1,rfl⟩:=h1
      refine(hra.reps i r' xs h1 h2).view.mono (f1.stp.trans g1) fun b' hb'=>?_
      rw[cntL_noOwn b' _ _ (noOwn_viewL r')]at hb';omega
   ·cases hf
  ·cases hf
 ·split at hf
  ·rename_i hc
   simp only[Bool.and_eq_true]at hc
   cases hf
   exact⟨G,Frz.refl hI,h.view,noOwn_view a,isPure_view a hc.1,by rw[isCell_view];exact hc.2⟩
  ·cases hf
theorem freezeL_ok{wl:Nat}:∀{l l':List AV}{xs:List Value}{G:Ghost}{st st':Store},Inv w G st->(∀b,cntL b l xs+cntS b G.ls st<=1)->RepC w G l xs->freezeL wl l st=some (l',st')->
  ∃G',Frz w G st G' st'/\RepC w G' l' xs/\AV.noOwnL l'=true/\AV.allPure l'=true/\AV.allCells l'=true
 |[],l',xs,G,st,st',hI,hX,h,hf=>by
  simp only[freezeL,Option.some.injEq,Prod.mk.injEq]at hf
  obtain⟨rfl,rfl⟩:=hf
  exact⟨G,Frz.refl hI,h,rfl,rfl,rfl⟩
 |a::l,l',xs,G,st,st',hI,hX,h,hf=>by
  simp only[freezeL]at hf
  split at hf
  ·rename_i a1 st1 h1
   split at hf
   ·rename_i l2 st2 h2
    cases hf
    cases xs with
    |nil=>have:=h.1;simp at this
    |cons x xs=>
    obtain⟨G1,f1,f2,f3,f4,f5⟩:=freezeC_ok hI (fun b=>by have:=hX b;omega) (h.2 0 a x rfl rfl) h1
    have hrest:RepC w G l xs:=⟨by simpa using h.1,fun i c v e1 e2=>h.2 (i+1) c v (by simpa using e1) (by simpa using e2)⟩
    have hX1:∀b,cntL b l xs+cntS b G1.ls st1<=1:=fun b=>by
     have e1:=hX b
     have e2:=f1.cnt b
     simp only[cntL]at e1
     omega
    obtain⟨G2,g1,g2,g3,g4,g5⟩:=freezeL_ok f1.inv hX1 (hrest.mono f1.stp fun b hb=>⟨f1.far b (by have:=hX b;simp only[cntL]at this;omega),rfl⟩) h2
    refine⟨G2,f1.trans g1,⟨by simp[g2.1],fun i c v e1 e2=>?_⟩,by simp[AV.noOwnL,f3,g3],by simp[AV.allPure,f4,g4],?_⟩
    ·cases i with
     |zero=>simp at e1 e2;subst e1;subst e2;exact f2.noOwn_stp g1.stp f3
     |succ i=>exact g2.2 i c v (by simpa using e1) (by simpa using e2)
    ·simp only[AV.allCells,List.all_cons,Bool.and_eq_true]at g5 ⊢
     exact⟨f5,g5⟩
   ·cases hf
  ·cases hf
theorem freezeL_length{wl:Nat}:∀{l l':List AV}{st st':Store},freezeL wl l st=some (l',st')->l'.length=l.length
 |[],l',st,st',hf=>by simp only[freezeL,Option.some.injEq,Prod.mk.injEq]at hf;obtain⟨rfl,_⟩:=hf;rfl
 |a::l,l',st,st',hf=>by
  simp only[freezeL]at hf
  split at hf
  ·split at hf
   ·rename_i h2;cases hf;simp[freezeL_length h2]
   ·cases hf
  ·cases hf
theorem freezeLL_ok{wl:Nat}:∀{l l':List (List AV)}{xs:List (List Value)}{G:Ghost}{st st':Store},Inv w G st->(∀b,cntLL b l xs+cntS b G.ls st<=1)->l.length=xs.length->(∀(i:Nat) r x,l[i]?=some r->xs[i]?=some x->RepC w G r x)->freezeLL wl l st=some (l',st')->
  ∃G',Frz w G st G' st'/\l'.length=l.length/\(∀(i:Nat) r x,l'[i]?=some r->xs[i]?=some x->RepC w G' r x)/\(∀(i:Nat) r r',l[i]?=some r->l'[i]?=some r'->r'.length=r.length)/\(∀r∈l',AV.noOwnL r=true)/\(∀r∈l',AV.allPure r=true)/\(∀r∈l',AV.allCells r=true)
 |[],l',xs,G,st,st',hI,hX,hl,h,hf=>by
  simp only[freezeLL,Option.some.injEq,Prod.mk.injEq]at hf
  obtain⟨rfl,rfl⟩:=hf
  exact⟨G,Frz.refl hI,rfl,h,fun i r r' e=>by simp at e,by simp,by simp,by simp⟩
 |a::l,l',xs,G,st,st',hI,hX,hl,h,hf=>by
  simp only[freezeLL]at hf
  split at hf
  ·rename_i a1 st1 h1
   split at hf
   ·rename_i l2 st2 h2
    cases hf
    cases xs with
    |nil=>simp at hl
    |cons x xs=>
    obtain⟨G1,f1,f2,f3,f4,f5⟩:=freezeL_ok hI (fun b=>by have:=hX b;simp only[cntLL]at this;omega) (h 0 a x rfl rfl) h1
    have hX1:∀b,cntLL b l xs+cntS b G1.ls st1<=1:=fun b=>by
     have e1:=hX b
     have e2:=f1.cnt b
     simp only[cntLL]at e1
     omega
    obtain⟨G2,g1,g2,g3,g4,g5,g6,g7⟩:=freezeLL_ok f1.inv hX1 (by simpa using hl) (fun i r y e1 e2=>(h (i+1) r y (by simpa using e1) (by simpa using e2)).mono f1.stp fun b hb=>⟨f1.far b (by
     have e3:=hX b
     have e4:=cntLL_get b l xs i r y e1 e2
     simp only[cntLL]at e3;omega),rfl⟩) h2
    refine⟨G2,f1.trans g1,by simp[g2],fun i r y e1 e2=>?_,fun i r r' e1 e2=>?_,fun r hr=>?_,fun r hr=>?_,fun r hr=>?_⟩
    ·cases i with
     |zero=>simp at e1 e2;subst e1;subst e2;exact f2.mono g1.stp fun b hb=>by rw[cntL_noOwn b _ _ f3]at hb;omega
     |succ i=>exact g3 i r y (by simpa using e1) (by simpa using e2)
    ·cases i with
     |zero=>simp at e1 e2;subst e1;subst e2;exact freezeL_length h1
     |succ i=>exact g4 i r r' (by simpa using e1) (by simpa using e2)
    ·rcases List.mem_cons.1 hr with rfl|hr
     ·exact f3
     ·exact g5 r hr
    ·rcases List.mem_cons.1 hr with rfl|hr
     ·exact f4
     ·exact g6 r hr
    ·rcases List.mem_cons.1 hr with rfl|hr
     ·exact f5
     ·exact g7 r hr
   ·cases hf
  ·cases hf
theorem freezeV_ok{wl:Nat}{st st':Store}{a a':AV}{v:Value}(hI:Inv w G st)(hX:∀b,cntS b G.ls st<=1)(h:RepV w G a v)(hf:freezeV wl a st=some (a',st')) :
  ∃G',Frz w G st G' st'/\RepV w G' a' v/\a'.noOwn=true:=by
 unfold freezeV at hf
 split at hf
 ·rename_i id ver
  split at hf
  ·rename_i v0 sz rows hst
   split at hf
   ·rename_i hc
    simp only[Bool.and_eq_true,decide_eq_true_eq,Bool.not_eq_true']at hc
    obtain⟨⟨rfl,hne⟩,_⟩:=hc
    split at hf
    ·rename_i rows' st1 hfl
     cases hf
     obtain⟨loc,hl,hmp,hlv,hra⟩:=hI.loc hst
     cases h with
     |mu _ _ _ loc' hp hl' hv' he=>
     rw[hl]at hl';cases hl'
     have hval:=he (by omega)
     subst hval
     rcases hra.lies with⟨_,hnil,_⟩|⟨b,off,c,e',hla,hcap,hheap,hsz,hlen,htip,hcells⟩
     ·subst hnil;simp at hne
     obtain⟨f1,f2⟩:=frz_empty hI hst hl hmp hlv
     have hblk:loc.blk=some b:=by unfold Loc.blk;rw[if_neg (by omega),hla];rfl
     have hX1:∀b',cntLL b' rows loc.vals+cntS b' (G.at id (emptied sz v0)).ls (st.set id (.rows (v0+1) sz []))<=1:=fun b'=>by
      have h1:=f2 b'
      have h2:=hX b'
      simp only[cntO]at h1
      omega
     obtain⟨G2,g1,g2,g3,g4,g5,g6,g7⟩:=freezeLL_ok f1.inv hX1 hra.vlen.symm (fun i r y e1 e2=>(hra.reps i r y e1 e2).mono f1.stp fun b _=>⟨rfl,rfl⟩) hfl
     have h0:cntS b (G.at id (emptied sz v0)).ls (st.set id (.rows (v0+1) sz []))=0:=by
      have h1:=f2 b
      have h2:=hX b
      simp only[cntO,hblk,if_true]at h1
      omega
     have ht2:G2.tip b=some 0:=(g1.far b h0).trans htip
     obtain⟨k1,k2⟩:=frz_shut g1.inv ht2 (by have:=g1.cnt b;omega)
     refine⟨G2.shut b,⟨(f1.stp.trans g1.stp).trans k1,k2,fun b'=>Nat.le_trans (g1.cnt b') (f1.cnt b'),fun b' hb'=>?_⟩,?_,by simp[AV.noOwn]⟩
     ·have hbb:b'≠b:=by
       intro e;subst e
       have h1:=f2 b'
       simp only[cntO,hblk,if_true]at h1
       omega
      simp only[Ghost.shut]
      rw[if_neg hbb]
      exact g1.far b' (by have:=f1.cnt b';omega)
     ·rw[hla,hra.len,<-g2]
      refine rep_shut (vals:=loc.vals) (fits_iff.2 fun r hr=>?_) g7 g5 g6 (by rw[hra.vlen,g2]) (fun i r xs h1 h2=>(g3 i r xs h1 h2).mono k1 fun b' hb'=>by rw[cntL_noOwn b' _ _ (g5 r (mem_get h1))]at hb';omega) (by rw[g2];exact hlen) (Array.getElem?_eq_some_iff.1 hheap).1 (by simp[Ghost.shut]) hcells
      obtain⟨i,hi,rfl⟩:=List.mem_iff_getElem.1 hr
      have hi':i<rows.length:=by rw[<-g2];exact hi
      rw[g4 i rows[i] rows'[i] (List.getElem?_eq_getElem hi') (List.getElem?_eq_getElem hi)]
      exact fits_iff.1 hra.fit _ (List.getElem_mem hi')
    ·cases hf
   ·cases hf
  ·cases hf
 ·cases hf
  cases h
  exact⟨G,Frz.refl hI,.nilSl,rfl⟩
 ·cases hf
end Ax
namespace Ax
open Go
variable {P:Program}{w w':World}{G G':Ghost}{β β':List BxG}{ρ:Operand->Value}{o:Oper}
theorem flatten_drop{sz:Nat}{α:Type}:∀(n:Nat)(rows:List (List α)),(∀r∈rows,r.length=sz)->rows.flatten.drop (n*sz)=(rows.drop n).flatten
 |0,rows,_=>by simp
 |n+1,[],_=>by simp
 |n+1,r::rows,h=>by
  have h0:r.length=sz:=h r (by simp)
  have ih:=flatten_drop n rows fun x hx=>h x (by simp[hx])
  rw[List.drop_succ_cons,List.flatten_cons,<-ih,Nat.succ_mul,Nat.add_comm,<-List.drop_drop,<-h0,List.drop_left]
theorem q_copy{t tx ty e:TypeId}{sz:Nat}(ht:P.underlying t=some (.slice e))(hsz:cellsIs P e sz=true)(hk:(∃e',P.underlying tx=some (.slice e'))\/P.underlying tx=some .string)
  {st:Store}{bx:Boxes}(hI:Inv w G st)(hB:RepB w G β bx){cO:Nat->Nat}(hX:∀b,cO b+cntB b β bx+cntS b G.ls st<=1)
  {s x:AV} {vs vx:Value} (hs:RepV w G s vs) (hx:RepV w G x vx) {wl lim:Nat} {st':Store} {bx':Boxes} {r:Ent} (ha:act0 wl lim (.copy sz) [.val s,.val x] st bx=some (r,st',bx')) :
  ∃v w' G',(Builtin.copy_ #[t,tx] ty #[vs,vx]).run P w=.ok v w'/\Act1 w G β st bx cO w' G' β st' bx' r v:=by
 obtain⟨i,hi,hsz⟩:∃i,P.info? e=some i/\i.size=sz:=by
  unfold cellsIs at hsz
  split at hsz
  ·rename_i i hi;exact⟨i,hi,by simpa using hsz⟩
  ·cases hsz
 unfold act0 at ha
 simp only at ha
 split at ha
 ·rename_i id ver x2 heq
  simp only[List.cons.injEq,Ent.val.injEq,and_true]at heq
  obtain⟨rfl,rfl⟩:=heq
  split at ha
  ·rename_i v sz' old new hst hnew
   split at ha
   ·rename_i hc
    simp only[Bool.and_eq_true,decide_eq_true_eq]at hc
    obtain⟨⟨⟨⟨⟨rfl,rfl⟩,hfit⟩,hle⟩,_⟩,_⟩:=hc
    cases ha
    obtain⟨news,hrep,hsrc,hcel,hno,_⟩:=brings_ok hI hx hnew hfit hk
    have hn0:∀b xs,cntL b new.flatten xs=0:=fun b xs=>cntL_noOwn b _ _ ((noOwnL_iff _).2 fun x hx=>by
     obtain⟨r,hr,hx⟩:=List.mem_flatten.1 hx
     exact(noOwnL_iff r).1 (hno r hr) x hx)
    obtain⟨loc,hl,hmp,hlv,hra⟩:=hI.loc hst
    cases hs with
    |mu _ _ _ loc' hp hl' hv' he=>
    rw[hl]at hl';cases hl'
    have hval:=he (by omega)
    subst hval
    obtain⟨hfl,hfc,hfv,hfcell⟩:=hra.flat
    have hfo:=fits_iff.1 hra.fit
    have hol:loc.vals.flatten.length=old.length*sz':=by rw[<-hfl.1];exact flatten_length old hfo
    have hnl:news.length=new.length*sz':=hsrc.newsLen
    have hmin:Nat.min new.length loc.len=new.length:=by rw[hra.len];exact Nat.min_eq_left hle
    by_cases hne:new=[]
    ·subst hne
     have h0:news=[]:=List.eq_nil_of_length_eq_zero (by simpa using hnl)
     subst h0
     refine⟨.int .i64 0,w,G,?_,?_⟩
     ·have h1:=hsrc.len
      have h2:=hsrc.cells
      simp only[List.length_nil]at h1 h2 hmin
      cases hla:loc.a<;>simp[Builtin.copy_,run_underlying ht,Go.sizeOf,typeInfo,hi,hsz,h1,h2,hmin,storeCells,goInt]
     ·have:st.set id (.rows v sz' ([]++old.drop 0))=st:=set_self st id _ (by simpa using hst)
      simp only[List.length_nil]at this ⊢
      rw[this]
      exact Act1.quiet hI hB (.int _ _) fun b=>by simp[cntE,cnt]
    ·have hn:0<new.length:=List.length_pos_iff.2 hne
     rcases hra.lies with⟨h0,h1,_⟩|⟨b,off,c,e',hla,hcap,hheap,hszc,hlen,htip,hcells⟩
     ·rw[h1]at hle;simp at hle;exact absurd hle hne
     have hle2:off+news.length<=c.size:=by
      rw[hnl]
      have:new.length*sz'<=loc.cap*sz':=Nat.mul_le_mul_right _ (by omega)
      omega
     have hst1:=run_storeCells_paste (P:=P) b off e' news c w hheap hle2 hsrc.one
     have e1:(Builtin.copy_ #[t,tx] ty #[.slice loc.a loc.len loc.cap,vx]).run P w=.ok (.int .i64 new.length) (w.setRow b (paste c.toList off news).toArray):=by
      have h1:=hsrc.len
      have h2:=hsrc.cells
      simp[Builtin.copy_,run_underlying ht,Go.sizeOf,typeInfo,hi,hsz,h1,h2,hmin,hla,hst1,goInt]
     have hall:=fits_append hfit (b:=old.drop new.length) (by rw[fits_iff];exact fun r hr=>hfo r (List.mem_of_mem_drop hr))
     have hlen2:(new++old.drop new.length).length=old.length:=by simp;omega
     have hflat:(new++old.drop new.length).flatten=new.flatten++old.flatten.drop (new.length*sz'):=by rw[List.flatten_append,flatten_drop _ _ hfo]
     let loc2:Loc:=⟨some ⟨b,off,none⟩,loc.cap,(new++old.drop new.length).length,sz',v,false,chop sz' (new++old.drop new.length).length (news++loc.vals.flatten.drop (new.length*sz'))⟩
     have hids:∀(i:Nat) l,G.ls[i]?=some l->∃l'',(G.at id loc2).ls[i]?=some l''/\l.ver<=l''.ver/\(l.ver=l''.ver\/l.mp=true->l''.hd=l.hd):=
      ids_at hl (by simp only[loc2];omega) fun _=>by simp only[loc2,Loc.hd,hla,hlen2,hra.len,hra.size,hmp]
     have hgl:(G.at id loc2).ls[id]?=some loc2:=by
      simp only[Ghost.at];rw[List.getElem?_set,if_pos rfl,if_pos (List.getElem?_eq_some_iff.1 hl).1]
     have hW:Wr w G (w.setRow b (paste c.toList off news).toArray) ⟨(G.at id loc2).ls,fun b'=>if b'=b then some 0 else G.tip b'⟩ b:=
      wr_row hheap hle2 htip (Nat.zero_le _) (Nat.le_refl _) hids
     have hblk:loc.blk=some b:=by unfold Loc.blk;rw[if_neg (by omega),hla];rfl
     refine⟨_,_,⟨(G.at id loc2).ls,fun b'=>if b'=b then some 0 else G.tip b'⟩,e1,?_⟩
     refine act_set hI hB hX hl hst hW.stp rfl ⟨rfl,rfl,rowsAt_of_flat (b:=b) (off:=off) (c:=(paste c.toList off news).toArray) (e:=e') (xs:=news++loc.vals.flatten.drop (new.length*sz')) hall (mem_app hcel fun r hr=>hra.cel r (List.mem_of_mem_drop hr)) ?_ rfl rfl rfl rfl hcap (setRow_heap w b c _ e' (0,0) hheap) (by rw[List.size_toArray,paste_length];simpa using hszc) (by rw[hlen2];exact hlen) (by simp) fun k x hk=>?_⟩
      (hW.tips hI) (fun b' _ hb'=>hW.untouched fun e=>hb' (by rw[hblk,e])) (by simp) rfl rfl (.int _ _) fun b'=>?_
     ·rw[hflat]
      refine(hrep.mono hW.stp fun b' hb'=>by rw[hn0]at hb';omega).append ((hfl.drop _).mono hW.stp fun b' hb'=>hW.untouched fun e=>?_)
      subst e
      have h3:=cntL_drop b' (new.length*sz') _ _ hfl.1
      rw[hfc]at h3
      have h1:=hX b'
      have h2:=cntS_get b' G.ls st id loc _ hl hst
      simp only[cntO,hblk,if_true]at h2
      omega
     ·rw[setRow_cell hheap hle2]
      by_cases hk':k<news.length
      ·rw[List.getElem?_append_left hk']at hk
       rw[if_pos (by omega),show off+k-off=k by omega]
       exact hk
      ·rw[List.getElem?_append_right (by omega),List.getElem?_drop]at hk
       rw[if_neg (by omega)]
       have:=hfcell b off hcells _ x hk
       rw[show new.length*sz'+(k-news.length)=k by omega]at this
       exact this
     ·have hblk':loc2.blk=loc.blk:=by
       rw[hblk];simp only[loc2];unfold Loc.blk;rw[if_neg (show ¬loc.cap=0 by omega)];rfl
      simp only[cntE,cnt,cntO]
      rw[hblk']
      simp only[loc2]
      rw[cntLL_chop b' (new++old.drop new.length) _ (fits_iff.1 hall) (by rw[hflat,List.length_append,List.length_append,hrep.1,List.length_drop,List.length_drop,hfl.1]),hflat,cntL_append b' _ _ _ _ hrep.1,hn0]
      have:=cntL_drop b' (new.length*sz') _ _ hfl.1
      rw[hfc]at this
      omega
   ·cases ha
  ·cases ha
 ·cases ha
theorem bytesOf_rows:∀{rows:List (List AV)}{l:List UInt8},bytesOf rows=some l->rows=bytesRows l
 |[],l,h=>by simp[bytesOf]at h;subst h;rfl
 |r::rows,l,h=>by
  unfold bytesOf at h
  split at h
  ·rename_i heq;cases heq
  ·rename_i n r' heq
   simp only[List.cons.injEq]at heq
   obtain⟨rfl,rfl⟩:=heq
   split at h
   ·rename_i hn
    split at h
    ·rename_i l' hl'
     cases h
     have:=bytesOf_rows hl'
     subst this
     have h2:(((UInt8.ofNat n.toNat).toNat:Nat):Int)=n:=by
      rw[UInt8.toNat_ofNat']
      omega
     show _=[AV.int .u8 (((UInt8.ofNat n.toNat).toNat:Nat):Int)]::bytesRows l'
     rw[h2]
    ·cases h
   ·cases h
  ·cases h
theorem foldl_push(l:List UInt8):∀acc:ByteArray,List.foldl (fun b a=>b.push a) acc l=⟨(acc.data.toList++l).toArray⟩:=by
 induction l with
 |nil=>intro acc;simp
 |cons b l ih=>
  intro acc
  rw[List.foldl_cons,ih]
  simp
theorem q_toStr{s d e:TypeId}{x:Operand}(ho:o.op=.convert s d x)(hs:P.underlying s=some (.slice e))(he:P.underlying e=some (.int .u8))(hd:P.underlying d=some .string){st:Store}(hI:Inv w G st)
  {a:AV}(ha:RepV w G a (ρ x)){rows:List (List AV)}(hr:rowsOf st a=some rows){l:List UInt8}(hl:bytesOf rows=some l):∃u,(execOp ρ o).run P w=.ok (.value u) w/\RepV w G (.str l) u:=by
 have hrows:=bytesOf_rows hl
 subst hrows
 have hfit:fits 1 (bytesRows l)=true:=by simp[fits,bytesRows]
 have hb:bringsOf st a=some (bytesRows l):=by
  unfold bringsOf
  split
  ·simp[rowsOf]at hr
  ·rw[hr]
   simp only[Option.some.injEq,bytesRows,List.map_map]
   exact List.map_congr_left fun _ _=>rfl
  ·exact hr
 obtain⟨xs,hrep,hsrc,_,_,_⟩:=brings_ok hI ha hb hfit (P:=P) (tx:=s) (.inl ⟨e,hs⟩)
 have hxs:xs=l.map fun b=>Value.int .u8 b.toNat:=by
  have hfl:(bytesRows l).flatten=l.map fun b=>AV.int .u8 b.toNat:=str_cells l
  rw[hfl]at hrep
  apply List.ext_getElem?
  intro i
  rw[List.getElem?_map]
  cases hi:l[i]? with
  |none=>
   have:xs.length<=i:=by rw[<-hrep.1];simpa using hi
   simpa using this
  |some b=>
   have h1:(l.map fun b=>AV.int .u8 b.toNat)[i]?=some (.int .u8 b.toNat):=by rw[List.getElem?_map,hi];rfl
   have h2:i<xs.length:=by rw[<-hrep.1];exact(List.getElem?_eq_some_iff.1 h1).1
   have h3:=hrep.2 i _ _ h1 (List.getElem?_eq_getElem h2)
   rw[List.getElem?_eq_getElem h2,h3.int_inv]
   rfl
 subst hxs
 have hlen:(bytesRows l).length=l.length:=by simp[bytesRows]
 rw[hlen]at hsrc
 have hsl:(∃n c,ρ x=.slice none n c/\l=[])\/∃ad c,ρ x=.slice (some ad) l.length c:=by
  have h1:=hsrc.len w
  have h2:=hsrc.cells
  generalize ρ x=v at *
  cases a with
  |nilSl=>cases ha;exact .inl ⟨_,_,rfl,by simp[rowsOf,bytesRows]at hr;exact hr⟩
  |emp=>cases ha;exact .inr ⟨_,_,by simp[rowsOf,bytesRows]at hr;subst hr;rfl⟩
  |lst s' r'=>cases ha;simp[rowsOf]at hr;subst hr;rw[hlen];exact .inr ⟨_,_,rfl⟩
  |own s' r'=>cases ha;simp[rowsOf]at hr;subst hr;rw[hlen];exact .inr ⟨_,_,rfl⟩
  |mu id ver=>
   cases ha with
   |mu _ _ _ loc hp hl2 hv he2=>
    obtain⟨p,n,c,rfl⟩:=hp
    simp[Builtin.lenOf]at h1
    subst h1
    cases p with
    |some p=>exact .inr ⟨_,_,rfl⟩
    |none=>
     simp[Builtin.firstCells]at h2
     exact .inl ⟨_,_,rfl,h2⟩
  |_=>simp[rowsOf]at hr
 refine⟨.string ⟨l.toArray⟩,?_,.str _ _ (by simp)⟩
 rcases hsl with⟨n,c,h1,rfl⟩|⟨ad,c,h1⟩
 ·simp[execOp,ho,convert,run_underlying hs,run_underlying hd,run_underlying he,h1,Conv.bytesToString]
  rfl
 ·have h2:=hsrc.cells
  rw[h1]at h2
  simp only[Builtin.firstCells,Nat.mul_one]at h2
  simp only[execOp,ho,convert,h1]
  simp[run_underlying hs,run_underlying hd,run_underlying he,Conv.bytesToString,h2,foldl_push]
end Ax
namespace Ax
open Go
variable {P:Program}{w w':World}{G G':Ghost}{β β':List BxG}{ρ:Operand->Value}{o:Oper}
theorem paste_one{α:Type}(r:List α)(k:Nat)(v:α)(h:k<r.length):paste r k [v]=r.set k v:=by
 rw[paste_eq _ _ _ (by simp;omega)]
 rw[List.set_eq_take_append_cons_drop,if_pos h]
 simp
theorem cntL_set(b:Nat):∀(r:List AV)(xs:List Value)(k:Nat)(v v':AV)(x:Value),r[k]?=some v->xs[k]?=some x->cntL b (r.set k v') xs+cnt b v x=cntL b r xs+cnt b v' x
 |[],_,_,_,_,_,h,_=>by simp at h
 |_::_,[],_,_,_,_,_,h=>by simp at h
 |r::rs,x::xs,0,v,v',x',h,k=>by simp at h k;subst h;subst k;simp only[List.set_cons_zero,cntL];omega
 |r::rs,x::xs,i+1,v,v',x',h,k=>by
  have:=cntL_set b rs xs i v v' x' (by simpa using h) (by simpa using k)
  simp only[List.set_cons_succ,cntL];omega
theorem stp_more(G:Ghost)(ls:List Loc):Stp w G w ⟨G.ls++ls,G.tip⟩ where
 imm:=fun _ _ h=>⟨rfl,h⟩
 ids:=fun id loc hl=>⟨loc,by
  rw[List.getElem?_append_left (List.getElem?_eq_some_iff.1 hl).1];exact hl,Nat.le_refl _,fun _=>rfl⟩
theorem inv_app{st:Store}{loc:Loc}{ob:AObj}(hI:Inv w G st)(h:RepO w ⟨G.ls++[loc],G.tip⟩ ob loc):Inv w ⟨G.ls++[loc],G.tip⟩ (st++[ob]) where
 len:=by simp[hI.len]
 tips:=hI.tips
 obj:=fun id ob' l h1 h2=>by
  simp only at h2
  by_cases hid:id<st.length
  ·rw[List.getElem?_append_left hid]at h1
   rw[List.getElem?_append_left (by rw[hI.len];exact hid)]at h2
   exact(hI.obj id ob' l h1 h2).stp (stp_more G _) fun b _=>⟨rfl,rfl⟩
  ·rw[List.getElem?_append_right (by omega)]at h1
   rw[List.getElem?_append_right (by rw[hI.len];omega),hI.len]at h2
   by_cases he:id-st.length=0
   ·rw[he]at h1 h2
    simp at h1 h2
    subst h1;subst h2;exact h
   ·obtain⟨n,hn⟩:∃n,id-st.length=n+1:=⟨id-st.length-1,by omega⟩
    rw[hn]at h1;simp at h1
def rawVals(w:World)(a:Addr)(sz:Nat)(rows:List (List AV)):List (List Value):=
 rows.mapIdx fun i r=>r.mapIdx fun j _=>(w.cell? ⟨a.block,a.off+(i*sz+j),none⟩).getD Go.undef
theorem raw_frz{st:Store}{id ve i k k2 sz sz':Nat}{rows rows':List (List AV)}{r:List AV}{u:Value}(hI:Inv w G st)(hp:RepV w G (.ptr id ve i k) u)
  (hst:st[id]?=some (.rows ve sz rows))(hrow:rows[i]?=some r)(hv:r[k2]?=some (.raw sz' rows')) :
  ∃G',Frz w G st G' ((st++[AObj.rows 0 sz' rows']).set id (.rows ve sz (rows.set i (paste r k2 [.mu st.length 0])))):=by
 obtain⟨loc,b,o,c,e,xs,hl,hmp,hlv,hra,hpv,hla,hcap,hblk,hheap,hle,hlen,htip,hvi,hrx,hcells⟩:=ptr_row hI hp hst hrow
 have hkr:k2<r.length:=(List.getElem?_eq_some_iff.1 hv).1
 obtain⟨x,hx⟩:∃x,xs[k2]?=some x:=⟨_,List.getElem?_eq_getElem (by rw[<-hrx.1];exact hkr)⟩
 have hrep:=hrx.2 _ _ _ hv hx
 cases hrep with
 |raw _ _ a cap hsp hcap' hfit hno hpu hce hc hr ht hb=>
 obtain⟨cc,ce,hb1,hb2⟩:=hb
 have key:∀(i:Nat) r (j:Nat) c,rows'[i]?=some r->r[j]?=some c->∃v,(rawVals w a sz' rows')[i]?.bind (·[j]?)=some v/\w.cell? ⟨a.block,a.off+(i*sz'+j),none⟩=some v:=by
  intro i r j c h1 h2
  obtain⟨v,hv⟩:=hc i r j c h1 h2
  exact⟨v,by simp[rawVals,h1,h2,hv],hv⟩
 have hcl:∀(i:Nat) xs (j:Nat) x,(rawVals w a sz' rows')[i]?=some xs->xs[j]?=some x->w.cell? ⟨a.block,a.off+(i*sz'+j),none⟩=some x:=by
  intro i xs j x h1 h2
  simp only[rawVals,List.getElem?_mapIdx,Option.map_eq_some_iff]at h1
  obtain⟨r,h3,rfl⟩:=h1
  simp only[List.getElem?_mapIdx,Option.map_eq_some_iff]at h2
  obtain⟨c,h4,rfl⟩:=h2
  obtain⟨v,hv⟩:=hc i r j c h3 h4
  rw[hv];rfl
 have haddr:(some a:Option Addr)=some ⟨a.block,a.off,none⟩:=by rw[<-hsp]
 let loc':Loc:=⟨some a,cap,rows'.length,sz',0,false,rawVals w a sz' rows'⟩
 let G':Ghost:=⟨G.ls++[loc'],G.tip⟩
 have hstp:Stp w G w G':=stp_more G _
 have hO:RepO w G' (.rows 0 sz' rows') loc':=by
  refine⟨rfl,rfl,hfit,hce,rfl,rfl,by simp[loc',rawVals],fun i r xs h1 h2=>⟨?_,fun j c v h3 h4=>?_⟩,?_⟩
  ·simp only[loc',rawVals,List.getElem?_mapIdx,h1,Option.map_some,Option.some.injEq]at h2
   subst h2;simp
  ·have h5:=hcl i xs j v h2 h4
   exact(hr i r j c v h1 h3 h5).noOwn_stp hstp ((noOwnL_iff r).1 (hno r (mem_get h1)) c (mem_get h3))
  ·rcases Nat.eq_zero_or_pos cap with h0|h0
   ·refine .inl ⟨h0,?_,rfl⟩
    cases rows' with
    |nil=>rfl
    |cons _ _=>simp at hcap';omega
   ·exact .inr ⟨a.block,a.off,cc,ce,haddr,h0,hb1,hb2,hcap',ht,hcl⟩
 have hI1:Inv w G' (st++[AObj.rows 0 sz' rows']):=inv_app hI hO
 have hid:id<st.length:=(List.getElem?_eq_some_iff.1 hst).1
 have hst1:(st++[AObj.rows 0 sz' rows'])[id]?=some (.rows ve sz rows):=by rw[List.getElem?_append_left hid];exact hst
 have hl1:G'.ls[id]?=some loc:=by
  show (G.ls++[loc'])[id]?=_
  rw[List.getElem?_append_left (by rw[hI.len];exact hid)];exact hl
 have hmu:RepV w G' (.mu st.length 0) (.slice (some a) rows'.length cap):=by
  refine .mu _ _ _ loc' ⟨_,_,_,rfl⟩ ?_ (Nat.le_refl _) fun _=>rfl
  show (G.ls++[loc'])[st.length]?=_
  rw[List.getElem?_append_right (by rw[hI.len];exact Nat.le_refl _),hI.len]
  simp
 have hset:paste r k2 [AV.mu st.length 0]=r.set k2 (.mu st.length 0):=paste_one r k2 _ hkr
 have hrx1:RepC w G' r xs:=⟨hrx.1,fun j c v h1 h2=>(hrx.2 j c v h1 h2).stp hstp fun _ _=>⟨rfl,rfl⟩⟩
 have hnew:RepO w G' (.rows ve sz (rows.set i (paste r k2 [.mu st.length 0]))) loc:=by
  rw[hset]
  refine⟨hmp,hlv,fits_iff.2 fun r' hr'=>?_,fun r' hr'=>?_,by simp[hra.len],hra.size,by simp[hra.vlen],fun i' r' xs' h1 h2=>?_,.inr ⟨b,o,c,e,hla,hcap,hheap,hle,by simpa using hlen,htip,hcells⟩⟩
  ·rcases List.mem_or_eq_of_mem_set hr' with h|h
   ·exact fits_iff.1 hra.fit r' h
   ·rw[h,List.length_set];exact fits_iff.1 hra.fit r (mem_get hrow)
  ·rcases List.mem_or_eq_of_mem_set hr' with h|h
   ·exact hra.cel r' h
   ·rw[h,<-hset];exact allCells_paste (hra.cel r (mem_get hrow)) (by simp[AV.allCells,AV.isCell]) (by simp;omega)
  ·rw[List.getElem?_set]at h1
   by_cases hii:i=i'
   ·subst hii
    rw[if_pos rfl]at h1
    split at h1
    ·cases h1
     rw[hvi]at h2;cases h2
     refine⟨by rw[List.length_set];exact hrx.1,fun j c v h3 h4=>?_⟩
     rw[List.getElem?_set]at h3
     by_cases hjj:k2=j
     ·subst hjj
      rw[if_pos rfl,if_pos hkr]at h3
      cases h3
      rw[hx]at h4;cases h4
      exact hmu
     ·rw[if_neg hjj]at h3
      exact hrx1.2 j c v h3 h4
    ·cases h1
   ·rw[if_neg hii]at h1
    have h3:=hra.reps i' r' xs' h1 h2
    exact⟨h3.1,fun j c v h4 h5=>(h3.2 j c v h4 h5).stp hstp fun _ _=>⟨rfl,rfl⟩⟩
 refine⟨G',hstp,inv_set hI1 (Stp.refl w G') (set_self _ _ _ hl1).symm (fun _ _ _ _ _ _ _ _=>⟨rfl,rfl⟩) hnew hI1.tips,fun b'=>?_,fun _ _=>rfl⟩
 have h1:=cntS_set b' G'.ls (st++[AObj.rows 0 sz' rows']) id loc _ loc (.rows ve sz (rows.set i (paste r k2 [.mu st.length 0]))) hl1 hst1
 rw[set_self _ _ _ hl1]at h1
 have h4:=cntLL_set b' rows loc.vals i r xs (paste r k2 [.mu st.length 0]) xs hrow hvi
 rw[set_self _ _ _ hvi]at h4
 have h5:=cntL_set b' r xs k2 _ (.mu st.length 0) _ hv hx
 rw[<-hset]at h5
 have h6:cntS b' G'.ls (st++[AObj.rows 0 sz' rows'])=cntS b' G.ls st+cntS b' [loc'] [AObj.rows 0 sz' rows']:=cntS_append b' _ _ _ _ hI.len
 have h7:cntS b' [loc'] [AObj.rows 0 sz' rows']<=cnt b' (.raw sz' rows') (.slice (some a) rows'.length cap):=by
  simp only[cntS,cntO,cnt,cntLL_noOwn b' rows' _ hno,loc',Loc.blk,Nat.add_zero]
  by_cases hc0:cap=0
  ·simp[hc0]
  ·simp[hc0]
 have h8:cnt b' (.mu st.length 0) (.slice (some a) rows'.length cap)=0:=by simp[cnt]
 simp only[cntO]at h1
 omega
end Ax
namespace Ax
open Go
variable {P:Program}{w w':World}{G G':Ghost}{β β':List BxG}{ρ:Operand->Value}{o:Oper}
def Done(P:Program)(ρ:Operand->Value)(o:Oper)(w:World)(G:Ghost)(β:List BxG)(st:Store)(bx:Boxes)(cO:Nat->Nat)(nb:Option Nat)(r:Ent)(st':Store)(bx':Boxes):Prop:=
 ∃n v w' G' β',(execOp ρ o).run P w=.ok n w'/\(n=.value v\/n=.skip/\v=undef)/\Act1 w G β st bx cO w' G' β' st' bx' r v/\BxStep nb β β'
theorem Done.quiet{st:Store}{bx:Boxes}{cO:Nat->Nat}{nb:Option Nat}{r:Ent}(hI:Inv w G st)(hB:RepB w G β bx){u:Value}(h:(execOp ρ o).run P w=.ok (.value u) w)(hr:RepE w G β r u)(hc:∀b,cntE b r u<=cO b):Done P ρ o w G β st bx cO nb r st bx:=
 ⟨_,u,w,G,β,h,.inl rfl,Act1.quiet hI hB hr hc,BxStep.refl _ _⟩
theorem Done.noOwn{st:Store}{bx:Boxes}{cO:Nat->Nat}{nb:Option Nat}{a:AV}(hI:Inv w G st)(hB:RepB w G β bx){u:Value}(h:(execOp ρ o).run P w=.ok (.value u) w)(hr:RepV w G a u)(hn:a.noOwn=true):Done P ρ o w G β st bx cO nb (.val a) st bx:=
 Done.quiet hI hB h hr fun b=>by simp only[cntE,cnt_noOwn b a u hn];omega
theorem RepEs.repC{vals:List Ent}{xs:List Value}{vs:List AV}(h:RepEs w G β vals xs)(hv:valsOf vals=some vs):RepC w G vs xs/\∀b,cntEs b vals xs=cntL b vs xs:=by
 obtain⟨e1,e2,e3⟩:=h.vals hv
 exact⟨⟨e2,e3⟩,fun b=>by rw[e1,cntEs_vals]⟩
theorem allCells_all{rows:List (List AV)}(h:rows.all AV.allCells=true):∀r∈rows,AV.allCells r=true:=by simpa using h
theorem allPure_all{rows:List (List AV)}(h:rows.all AV.allPure=true):∀r∈rows,AV.allPure r=true:=by simpa using h
theorem mem_set_fill{sz:Nat}{p:AV->Prop}:∀(qs:List Nat)(vs:List AV)(rows rows':List (List AV)),(∀r∈rows,∀c∈r,p c)->(∀v∈vs,∀c∈v.cells,p c)->fillRows sz rows qs vs=some rows'->∀r∈rows',∀c∈r,p c
 |[],[],rows,rows',hr,_,h=>by simp[fillRows]at h;subst h;exact hr
 |[],_::_,_,_,_,_,h=>by simp[fillRows]at h
 |_::_,[],_,_,_,_,h=>by simp[fillRows]at h
 |i::qs,v::vs,rows,rows',hr,hv,h=>by
  simp only[fillRows]at h
  split at h
  ·refine mem_set_fill qs vs _ rows' (fun r hm=>?_) (fun u hu=>hv u (by simp[hu])) h
   rcases List.mem_or_eq_of_mem_set hm with h1|h1
   ·exact hr r h1
   ·rw[h1];exact hv v (by simp)
  ·cases h
theorem noOwn_cells{v:AV}(h:v.noOwn=true):∀c∈v.cells,c.noOwn=true:=by
 cases v<;>simp_all [AV.cells,AV.noOwn]
 exact(noOwnL_iff _).1 h
theorem viewL_noOwn(vs:List AV):∀v∈AV.viewL vs,v.noOwn=true:=(noOwnL_iff _).1 (noOwn_viewL vs)
theorem boundOf_ok{x:Option Operand}{d a:Int}{vals rest:List Ent}{xs:List Value}(h:boundOf x.isSome d vals=some (a,rest))(hR:RepEs w G β vals (x.toList.map ρ++xs)):OptB ρ x d a/\RepEs w G β rest xs:=by
 unfold boundOf at h
 cases x with
 |none=>simp at h;obtain⟨rfl,rfl⟩:=h;exact⟨.inl ⟨rfl,rfl⟩,by simpa using hR⟩
 |some y=>
  simp only[Option.isSome_some,if_true]at h
  split at h
  ·rename_i n r
   cases h
   simp only[Option.toList_some,List.map_cons,List.map_nil,List.cons_append,List.nil_append,RepEs,RepE]at hR
   exact⟨.inr ⟨y,rfl,hR.1.int_inv⟩,hR.2⟩
  ·cases h
theorem app_types{c:Call}{t u:TypeId}(h2:c.argTypes.size=2)(h0:c.argTypes[0]?=some t)(h1:c.argTypes[1]?=some u):c.argTypes = #[t,u]:=by
 apply Array.ext_getElem?
 intro i
 match i with
 |0=>simpa using h0
 |1=>simpa using h1
 |i+2=>simp;omega
section
variable {S:Nat->Option SFunc}{so:SOper}{vals:List Ent}{wl lim:Nat}{st st':Store}{bx bx':Boxes}{cO:Nat->Nat}{r:Ent}
theorem d_slice{t:TypeId}{x:Operand}{lo hi mx:Option Operand}{isS:Bool}{sz:Nat}(ho:o.op=.slice t x lo hi mx)(hmh:mx.isSome=true->hi.isSome=true)
  (hu:match P.underlying t with|some (.slice e)=>(!isS&&cellsIs P e sz)=true|some .string=>(isS && !mx.isSome)=true|_=>False)(hI:Inv w G st)(hB:RepB w G β bx)
  (hR:RepEs w G β vals ((sliceArgs x lo hi mx).map ρ)) (hcO:∀b,cntEs b vals ((sliceArgs x lo hi mx).map ρ)<=cO b) (ha:act0 wl lim (.slice isS lo.isSome hi.isSome mx.isSome sz) vals st bx=some (r,st',bx')) :
  Done P ρ o w G β st bx cO none r st' bx':=by
 simp only[sliceArgs,List.map_cons,List.map_append]at hR
 unfold act0 at ha
 simp only at ha
 split at ha
 ·rename_i a l
  obtain⟨hRx,hRl⟩:=hR
  simp only[RepE]at hRx
  split at ha
  ·cases ha
  ·rename_i n hn
   split at ha
   ·cases ha
   ·rename_i lov l1 hlo
    obtain⟨hlo1,hR1⟩:=boundOf_ok hlo (xs:=hi.toList.map ρ++mx.toList.map ρ) (by simpa [List.append_assoc] using hRl)
    split at ha
    ·cases ha
    ·rename_i hiv l2 hhi
     obtain⟨hhi1,hR2⟩:=boundOf_ok hhi hR1
     split at ha
     ·rename_i hmx
      have hmx0:mx=none:=by cases mx<;>simp_all
      subst hmx0
      split at ha
      ·rename_i v hv
       cases ha
       unfold sliceV at hv
       split at hv
       ·rename_i s
        split at hv
        ·rename_i hc
         simp only[Bool.and_eq_true,decide_eq_true_eq]at hc
         obtain⟨⟨⟨_,h0⟩,h1⟩,h2⟩:=hc
         cases hv
         simp only[if_true,lenV,Option.some.injEq]at hn
         subst hn
         have hus:P.underlying t=some .string:=by
          split at hu
          ·simp at hu
          ·assumption
          ·exact hu.elim
         obtain⟨u,e1,e2⟩:=q_sliceStr ho hus hRx hlo1 hhi1 h0 h1 h2
         exact Done.noOwn hI hB e1 e2 rfl
        ·cases hv
       ·simp only[Bool.and_true]at hv
        split at hv
        ·rename_i hc
         simp only[Bool.and_eq_true,decide_eq_true_eq]at hc
         obtain⟨rfl,rfl⟩:=hc
         cases hv
         simp only[lenV,rowsOf]at hn
         cases hn
         split at hu
         ·rename_i e hue
          simp only[Bool.and_eq_true]at hu
          exact Done.noOwn hI hB (q_sliceNil ho hue hu.2 hRx hlo1 hhi1 (.inl rfl)) .nilSl rfl
         ·simp at hu
         ·exact hu.elim
        ·cases hv
       ·simp only[Bool.and_true]at hv
        split at hv
        ·rename_i hc
         simp only[Bool.and_eq_true,decide_eq_true_eq]at hc
         obtain⟨rfl,rfl⟩:=hc
         cases hv
         simp only[lenV,rowsOf]at hn
         cases hn
         split at hu
         ·rename_i e hue
          simp only[Bool.and_eq_true]at hu
          obtain⟨u,e1,e2⟩:=q_sliceEmp0 ho hue hu.2 hRx hlo1 hhi1 (.inl rfl)
          exact Done.noOwn hI hB e1 e2 rfl
         ·simp at hu
         ·exact hu.elim
        ·cases hv
       ·rename_i s rows
        simp only at hv
        split at hv
        ·rename_i hc
         simp only[Bool.and_eq_true,decide_eq_true_eq]at hc
         obtain⟨⟨⟨rfl,h0⟩,h1⟩,h2⟩:=hc
         cases hv
         simp only[lenV,rowsOf]at hn
         cases hn
         split at hu
         ·rename_i e hue
          simp only[Bool.and_eq_true]at hu
          obtain⟨u,e1,e2⟩:=q_sliceLst ho hue hu.2 hRx hlo1 hhi1 h0 h1 h2
          exact Done.noOwn hI hB e1 e2 rfl
         ·simp at hu
         ·exact hu.elim
        ·cases hv
       ·rename_i s rows
        simp only at hv
        split at hv
        ·rename_i hc
         simp only[Bool.and_eq_true,decide_eq_true_eq]at hc
         obtain⟨⟨⟨rfl,h0⟩,h1⟩,h2⟩:=hc
         cases hv
         simp only[lenV,rowsOf]at hn
         cases hn
         split at hu
         ·rename_i e hue
          simp only[Bool.and_eq_true]at hu
          obtain⟨u,e1,e2⟩:=q_sliceLst ho hue hu.2 hRx.view hlo1 hhi1 h0 h1 h2
          exact Done.noOwn hI hB e1 e2 rfl
         ·simp at hu
         ·exact hu.elim
        ·cases hv
       ·cases hv
      ·cases ha
     ·rename_i m hmx
      obtain⟨z,rfl⟩:∃z,mx=some z:=by cases mx<;>simp_all
      simp only[Option.toList_some,List.map_cons,List.map_nil,RepEs,RepE]at hR2
      have hz:=hR2.1.int_inv
      split at ha
      ·rename_i v hv
       cases ha
       unfold sliceV at hv
       split at hv
       ·simp at hv
       ·simp only at hv
        split at hv
        ·rename_i hc
         simp only[Bool.and_eq_true,decide_eq_true_eq,beq_iff_eq]at hc
         obtain⟨⟨rfl,rfl⟩,rfl⟩:=hc
         cases hv
         simp only[lenV,rowsOf]at hn
         cases hn
         split at hu
         ·rename_i e hue
          simp only[Bool.and_eq_true]at hu
          exact Done.noOwn hI hB (q_sliceNil ho hue hu.2 hRx hlo1 hhi1 (.inr ⟨z,rfl,hmh rfl,hz⟩)) .nilSl rfl
         ·simp at hu
         ·exact hu.elim
        ·cases hv
       ·simp only at hv
        split at hv
        ·rename_i hc
         simp only[Bool.and_eq_true,decide_eq_true_eq,beq_iff_eq]at hc
         obtain⟨⟨rfl,rfl⟩,rfl⟩:=hc
         cases hv
         simp only[lenV,rowsOf]at hn
         cases hn
         split at hu
         ·rename_i e hue
          simp only[Bool.and_eq_true]at hu
          obtain⟨u,e1,e2⟩:=q_sliceEmp0 ho hue hu.2 hRx hlo1 hhi1 (.inr ⟨z,rfl,hmh rfl,hz⟩)
          exact Done.noOwn hI hB e1 e2 rfl
         ·simp at hu
         ·exact hu.elim
        ·cases hv
       ·rename_i s rows
        simp only at hv
        split at hv
        ·rename_i hc
         simp only[Bool.and_eq_true,decide_eq_true_eq]at hc
         obtain⟨⟨rfl,rfl⟩,rfl⟩:=hc
         cases hv
         simp only[lenV,rowsOf]at hn
         cases hn
         split at hu
         ·rename_i e hue
          simp only[Bool.and_eq_true]at hu
          obtain⟨u,e1,e2⟩:=q_sliceEmp ho hue hu.2 hRx hlo1 hhi1 (hmh rfl) hz
          exact Done.noOwn hI hB e1 e2 rfl
         ·simp at hu
         ·exact hu.elim
        ·cases hv
       ·rename_i s rows
        simp only at hv
        split at hv
        ·rename_i hc
         simp only[Bool.and_eq_true,decide_eq_true_eq]at hc
         obtain⟨⟨rfl,rfl⟩,rfl⟩:=hc
         cases hv
         simp only[lenV,rowsOf]at hn
         cases hn
         split at hu
         ·rename_i e hue
          simp only[Bool.and_eq_true]at hu
          obtain⟨u,e1,e2⟩:=q_sliceEmp ho hue hu.2 hRx.view hlo1 hhi1 (hmh rfl) hz
          exact Done.noOwn hI hB e1 e2 rfl
         ·simp at hu
         ·exact hu.elim
        ·cases hv
       ·cases hv
      ·cases ha
     ·cases ha
 ·cases ha
end
end Ax
