/- The library of this proof, part 3: an abstract interpreter of the loaded code, and its soundness. -/
import Derived.Test.YtegibojgmandmaaA2
import Derived.Orders

namespace Ax
open Go
variable {P:Program}{w w':World}{G G':Ghost}{β β':List BxG}{ρ:Operand->Value}{o:Oper}
theorem ptr_row {st:Store}(hI:Inv w G st){id ver i k sz:Nat}{v:Value}{rows:List (List AV)}{r:List AV}(hp:RepV w G (.ptr id ver i k) v)(hst:st[id]?=some (.rows ver sz rows))(hr:rows[i]?=some r) :
  ∃loc b off c e xs,G.ls[id]?=some loc/\loc.mp=false/\loc.ver=ver/\RowsAt w G sz rows loc/\v=.pointer (some ⟨b,off+(i*sz+k),none⟩)/\loc.a=some ⟨b,off,none⟩/\0<loc.cap/\loc.blk=some b/\
   w.heap[b]?=some (.cells c e (0,0))/\off+loc.cap*sz<=c.size/\rows.length<=loc.cap/\G.tip b=some 0/\loc.vals[i]?=some xs/\RepC w G r xs/\
   ∀(i:Nat) xs (j:Nat) x,loc.vals[i]?=some xs->xs[j]?=some x->w.cell? ⟨b,off+(i*sz+j),none⟩=some x:=by
 obtain⟨loc,hl,hmp,hlv,hra⟩:=hI.loc hst
 cases hp with
 |ptr _ _ _ _ _ loc' hpp hl' hv he=>
 rw[hl]at hl';cases hl'
 obtain⟨a,hla,rfl⟩:=he hlv.symm
 rcases hra.lies with⟨_,hnil,_⟩|⟨b,off,c,e',hla',hcap,hheap,hle,hlen,htip,hcells⟩
 ·subst hnil;simp at hr
 ·rw[hla']at hla;cases hla
  have hi:i<loc.vals.length:=by rw[hra.vlen];exact(List.getElem?_eq_some_iff.1 hr).1
  have hv:=List.getElem?_eq_getElem hi
  exact⟨loc,b,off,c,e',loc.vals[i],hl,hmp,hlv,hra,by rw[hra.size],hla',hcap,by unfold Loc.blk;rw[if_neg (by omega),hla'];rfl,hheap,hle,hlen,htip,hv,hra.reps i r _ hr hv,hcells⟩
theorem allCells_paste {as vs:List AV}(h:AV.allCells as=true)(k:AV.allCells vs=true){n:Nat}(hn:n+vs.length<=as.length):AV.allCells (paste as n vs)=true:=by
 rw[paste_eq _ _ _ hn]
 simp only[AV.allCells,List.all_eq_true,List.mem_append]at *
 intro x hx
 rcases hx with (hx|hx)|hx
 ·exact h x (List.mem_of_mem_take hx)
 ·exact k x hx
 ·exact h x (List.mem_of_mem_drop hx)
theorem q_store {t:TypeId}{x y:Operand}{n:Nat}(ho:o.op=.store t x y)(hn:cellsIs P t n=true){st:Store}{bx:Boxes}(hI:Inv w G st)(hB:RepB w G β bx){cO:Nat->Nat}(hX:∀b,cO b+cntB b β bx+cntS b G.ls st<=1)
  {p v:AV} (hp:RepV w G p (ρ x)) (hv:RepV w G v (ρ y)) (hcs:∀b,cnt b v (ρ y)<=cO b) {wl lim:Nat} {st':Store} {bx':Boxes} {r:Ent} (ha:act0 wl lim (.store n) [.val p,.val v] st bx=some (r,st',bx')) :
  ∃w' G',(execOp ρ o).run P w=.ok .skip w'/\Act1 w G β st bx cO w' G' β st' bx' r undef:=by
 simp only[act0]at ha
 split at ha
 ·rename_i hcond
  simp only[Bool.and_eq_true,decide_eq_true_eq]at hcond
  obtain⟨hvn,hvc⟩:=hcond
  split at ha
  ·rename_i st1 hw
   cases ha
   unfold writeP at hw
   split at hw
   ·rename_i id ver i k
    split at hw
    ·rename_i ve sz rows hst
     split at hw
     ·rename_i hver
      simp only[Bool.and_eq_true,decide_eq_true_eq]at hver
      obtain⟨rfl,_⟩:=hver
      split at hw
      ·rename_i row hrow
       split at hw
       ·rename_i hfit
        cases hw
        obtain⟨loc,b,off,c,e,xs,hl,hmp,hlv,hra,hpv,hla,hcap,hblk,hheap,hle,hlen,htip,hvi,hrx,hcells⟩:=ptr_row hI hp hst hrow
        obtain⟨hcv,hcn⟩:=hv.cells
        have hrl:row.length=sz:=fits_iff.1 hra.fit row (mem_get hrow)
        have hxl:xs.length=sz:=by rw[<-hrx.1];exact hrl
        have hi:i<rows.length:=(List.getElem?_eq_some_iff.1 hrow).1
        have hyl:(ρ y).cells.toList.length=v.cells.length:=hcv.1.symm
        have hones:=hcv.ones hvc
        have hin:off+(i*sz+k)+(ρ y).cells.toList.length<=c.size:=by
         have h1:(i+1)*sz<=loc.cap*sz:=Nat.mul_le_mul_right _ (by omega)
         rw[Nat.succ_mul]at h1
         omega
        have hst1:=run_storeCells_paste (P:=P) b (off+(i*sz+k)) e (ρ y).cells.toList c w hheap hin hones
        have hids:=ids_at (loc':={ loc with vals:=loc.vals.set i (paste xs k (ρ y).cells.toList) }) hl (Nat.le_refl _) fun _=>rfl
        have hW:Wr w G (w.setRow b (paste c.toList (off+(i*sz+k)) (ρ y).cells.toList).toArray) ⟨(G.at id { loc with vals:=loc.vals.set i (paste xs k (ρ y).cells.toList) }).ls,fun b'=>if b'=b then some 0 else G.tip b'⟩ b:=
         wr_row hheap hin htip (Nat.zero_le _) (Nat.le_refl _) hids
        have hone:cO b=0/\cntLL b rows loc.vals=0:=by
         have h1:=hX b
         have h2:=cntS_get b G.ls st id loc _ hl hst
         simp only[cntO,hblk,if_true]at h2
         omega
        refine⟨_,⟨(G.at id { loc with vals:=loc.vals.set i (paste xs k (ρ y).cells.toList) }).ls,fun b'=>if b'=b then some 0 else G.tip b'⟩,?_,act_set hI hB hX hl hst hW.stp rfl ⟨hmp,hlv,?_⟩ (hW.tips hI) (fun b' _ hb'=>hW.untouched fun e=>hb' (by rw[hblk,e])) (by simp) rfl rfl trivial fun b'=>?_⟩
        ·have hsz:(ρ y).cells.size=n:=by rw[<-hvn,hcv.1];simp
         simp only[execOp,ho,hpv,Sem.run_bind,Instr.storeAt,Instr.sureAddr,Sem.run_pure,Result.andThen_ok,storeVar,run_sizeOf_is hn,hsz,ne_eq,not_true_eq_false,if_false,hst1]
        ·have hmono:RepC (w.setRow b (paste c.toList (off+(i*sz+k)) (ρ y).cells.toList).toArray) ⟨(G.at id { loc with vals:=loc.vals.set i (paste xs k (ρ y).cells.toList) }).ls,fun b'=>if b'=b then some 0 else G.tip b'⟩ v.cells (ρ y).cells.toList:=
          hcv.mono hW.stp fun b' hb'=>hW.untouched fun e=>by
           subst e
           rw[hcn]at hb'
           have:=hcs b'
           omega
         have hold:∀(i':Nat) r' xs',rows[i']?=some r'->loc.vals[i']?=some xs'->RepC (w.setRow b (paste c.toList (off+(i*sz+k)) (ρ y).cells.toList).toArray) ⟨(G.at id { loc with vals:=loc.vals.set i (paste xs k (ρ y).cells.toList) }).ls,fun b'=>if b'=b then some 0 else G.tip b'⟩ r' xs':=fun i' r' xs' h1 h2=>
          (hra.reps i' r' xs' h1 h2).mono hW.stp fun b' hb'=>hW.untouched fun e=>by
           subst e
           have:=cntLL_get b' rows loc.vals i' r' xs' h1 h2
           omega
         refine⟨fits_iff.2 fun r' hr'=>?_,fun r' hr'=>?_,by simp[hra.len],hra.size,by simp[hra.vlen],fun i' r' xs' h1 h2=>?_,.inr ⟨b,off,_,e,hla,hcap,setRow_heap w b c _ e (0,0) hheap,by rw[List.size_toArray,paste_length];simpa using hle,by simpa using hlen,by simp,fun i' xs' j z h1 h2=>?_⟩⟩
         ·rcases List.mem_or_eq_of_mem_set hr' with h|h
          ·exact fits_iff.1 hra.fit r' h
          ·rw[h,paste_length];exact hrl
         ·rcases List.mem_or_eq_of_mem_set hr' with h|h
          ·exact hra.cel r' h
          ·rw[h];exact allCells_paste (hra.cel row (mem_get hrow)) hvc hfit
         ·simp only at h2
          rw[List.getElem?_set]at h1 h2
          by_cases hii:i=i'
          ·subst hii
           rw[if_pos rfl,if_pos hi]at h1
           rw[if_pos rfl,if_pos (List.getElem?_eq_some_iff.1 hvi).1]at h2
           cases h1;cases h2
           exact(hold i row xs hrow hvi).paste hmono hfit
          ·rw[if_neg hii]at h1 h2
           exact hold i' r' xs' h1 h2
         ·simp only at h1
          rw[setRow_cell hheap hin]
          rw[List.getElem?_set]at h1
          by_cases hii:i=i'
          ·subst hii
           rw[if_pos rfl]at h1
           split at h1
           ·cases h1
            rw[paste_get _ _ _ _ (by rw[hyl,hxl,<-hrl];exact hfit)]at h2
            split at h2
            ·rename_i hj
             rw[if_pos (by omega),show off+(i*sz+j)-(off+(i*sz+k))=j-k by omega]
             exact h2
            ·rename_i hj
             rw[if_neg (by omega)]
             exact hcells i xs j z hvi h2
           ·cases h1
          ·rw[if_neg hii]at h1
           have hj:j<sz:=by
            have h3:=(List.getElem?_eq_some_iff.1 h2).1
            have h4:=hra.flat.2.2.1 xs' (mem_get h1)
            omega
           have:¬(off+(i*sz+k)<=off+(i'*sz+j)/\off+(i'*sz+j)<off+(i*sz+k)+(ρ y).cells.toList.length):=by
            rcases Nat.lt_or_gt_of_ne hii with hlt|hlt
            ·have h5:(i+1)*sz<=i'*sz:=Nat.mul_le_mul_right _ hlt
             rw[Nat.succ_mul]at h5
             omega
            ·have h5:(i'+1)*sz<=i*sz:=Nat.mul_le_mul_right _ hlt
             rw[Nat.succ_mul]at h5
             omega
           rw[if_neg this]
           exact hcells i' xs' j z h1 h2
        ·have h1:=cntLL_set b' rows loc.vals i row xs (paste row k v.cells) (paste xs k (ρ y).cells.toList) hrow hvi
         have h2:=cntL_paste b' row v.cells xs (ρ y).cells.toList k hrx.1 hcv.1 hfit
         have h3:=hcs b'
         rw[hcn]at h2
         have hb:(if ({ loc with vals:=loc.vals.set i (paste xs k (ρ y).cells.toList) }:Loc).blk=some b' then 1 else 0)=(if loc.blk=some b' then 1 else 0):=rfl
         simp only[cntE,cntO]
         rw[hb]
         omega
       ·cases hw
      ·cases hw
     ·cases hw
    ·cases hw
   ·cases hw
  ·cases ha
 ·cases ha
theorem RepV.took {a:AV}{v:Value}(h:RepV w G a v):RepV w G a.took v:=by
 cases h with
 |own sz rows a cap hsp hcap hfit hno hpu hce hc hr htip hblk=>exact .gone _ rfl
 |agg cs vs hl h=>exact .agg cs vs hl h
 |tup cs vs hl h=>exact .tup cs vs hl h
 |undef=>exact .undef
 |gone v h=>exact .gone v h
 |bool b=>exact .bool b
 |int k n=>exact .int k n
 |str l s h=>exact .str l s h
 |nilPtr=>exact .nilPtr
 |nilSl=>exact .nilSl
 |nilMap=>exact .nilMap
 |nilFn=>exact .nilFn
 |nilIf=>exact .nilIf
 |lst sz rows a cap hsp hcap hfit hno hpu hce hc hr=>exact .lst sz rows a cap hsp hcap hfit hno hpu hce hc hr
 |emp a=>exact .emp a
 |mu id ver v loc hp hl hv he=>exact .mu id ver v loc hp hl hv he
 |ptr id ver i k v loc hp hl hv he=>exact .ptr id ver i k v loc hp hl hv he
 |pel sz rows i k a cap hl=>exact .pel sz rows i k a cap hl
 |map id loc b hl hm hb=>exact .map id loc b hl hm hb
 |fn f first caps vf vc hl hm hn h k=>exact .fn f first caps vf vc hl hm hn h k
theorem cnt_took (b:Nat)(a:AV)(v:Value)(h:a.isCell=true):cnt b a.took v=0:=by
 refine cnt_noOwn b _ _ ?_
 cases a<;>simp_all [AV.took,AV.noOwn,AV.isCell]
theorem isCell_took (a:AV)(h:a.isCell=true):a.took.isCell=true:=by
 cases a<;>simp_all [AV.took,AV.isCell]
theorem RepC.took {as:List AV}{xs:List Value}(h:RepC w G as xs):RepC w G (as.map AV.took) xs:=by
 refine⟨by simp[h.1],fun i c v h1 h2=>?_⟩
 simp only[List.getElem?_map,Option.map_eq_some_iff]at h1
 obtain⟨c',h1,rfl⟩:=h1
 exact(h.2 i c' v h1 h2).took
theorem cntL_took (b:Nat):∀(as:List AV)(xs:List Value),AV.allCells as=true->cntL b (as.map AV.took) xs=0
 |[],xs,_=>by simp[cntL]
 |a::as,[],_=>by simp[cntL]
 |a::as,x::xs,h=>by
  simp only[AV.allCells,List.all_cons,Bool.and_eq_true]at h
  have:=cntL_took b as xs h.2
  simp only[List.map_cons,cntL,cnt_took b a x h.1,this]
theorem allCells_took {as:List AV}(h:AV.allCells as=true):AV.allCells (as.map AV.took)=true:=by
 simp only[AV.allCells,List.all_eq_true,List.mem_map]at *
 rintro x ⟨y,hy,rfl⟩
 exact isCell_took y (h y hy)
theorem allCells_cut {as:List AV}(h:AV.allCells as=true)(k n:Nat):AV.allCells ((as.drop k).take n)=true:=by
 simp only[AV.allCells,List.all_eq_true]at *
 intro x hx
 exact h x (List.mem_of_mem_drop (List.mem_of_mem_take hx))
theorem paste_self {α:Type}(xs:List α)(k n:Nat)(h:k+n<=xs.length):paste xs k ((xs.drop k).take n)=xs:=by
 rw[paste_eq _ _ _ (by simp;omega)]
 have:((xs.drop k).take n).length=n:=by simp;omega
 rw[this,List.append_assoc,<-List.drop_drop,List.take_append_drop,List.take_append_drop]
theorem took_row {r cs:List AV}{xs:List Value}{k n:Nat}(hr:RepC w G r xs)(hc:cut r k n=some cs)(hcel:AV.allCells r=true) :
  RepC w G (paste r k (cs.map AV.took)) xs/\AV.allCells (paste r k (cs.map AV.took))=true/\∀b,cntL b (paste r k (cs.map AV.took)) xs+cntL b cs ((xs.drop k).take n)=cntL b r xs:=by
 obtain⟨rfl,hle,hlen⟩:=cut_some hc
 have hcc:=allCells_cut hcel k n
 have hle':k+n<=xs.length:=by rw[<-hr.1];exact hle
 have hself:=paste_self xs k n hle'
 refine⟨?_,allCells_paste hcel (allCells_took hcc) (by rw[List.length_map];omega),fun b=>?_⟩
 ·have:=hr.paste ((hr.drop k).take n).took (n:=k) (by rw[List.length_map];omega)
  rw[hself]at this
  exact this
 ·have h1:=cntL_take_drop b k r xs hr.1
  have h2:=cntL_take_drop b n (r.drop k) (xs.drop k) (by simp[hr.1])
  have h3:=cntL_took b ((r.drop k).take n) ((xs.drop k).take n) hcc
  have e:cntL b (paste r k (((r.drop k).take n).map AV.took)) xs=cntL b (paste r k (((r.drop k).take n).map AV.took)) (paste xs k ((xs.drop k).take n)):=by rw[hself]
  rw[e,paste_eq _ _ _ (by rw[List.length_map];omega),paste_eq _ _ _ (by simp;omega),cntL_append b _ _ _ _ (by have:=hr.1;simp;omega),cntL_append b _ _ _ _ (by have:=hr.1;simp;omega),h3]
  have l1:(((r.drop k).take n).map AV.took).length=n:=by rw[List.length_map];omega
  have l2:((xs.drop k).take n).length=n:=by simp;omega
  rw[l1,l2]
  rw[List.drop_drop,List.drop_drop]at h2
  omega
theorem set_self {α:Type}(l:List α)(i:Nat)(x:α)(h:l[i]?=some x):l.set i x=l:=by
 apply List.ext_getElem?
 intro j
 rw[List.getElem?_set]
 split
 ·rename_i e;subst e
  split
  ·exact h.symm
  ·rename_i hn;exact absurd (List.getElem?_eq_some_iff.1 h).1 hn
 ·rfl
theorem q_loadTake {t:TypeId}{x:Operand}{n:Nat}{agg:Bool}(ho:o.op=.load t x)(hn:cellsIs P t n=true)(hagg:isAggT P t=some agg)(hone:agg=false->n=1){st:Store}{bx:Boxes}(hI:Inv w G st)(hB:RepB w G β bx){cO:Nat->Nat}(hX:∀b,cO b+cntB b β bx+cntS b G.ls st<=1)
  {p:AV} (hp:RepV w G p (ρ x)) {wl lim:Nat} {st':Store} {bx':Boxes} {r:Ent} (ha:act0 wl lim (.load agg n true) [.val p] st bx=some (r,st',bx')) :
  ∃v,(execOp ρ o).run P w=.ok (.value v) w/\Act1 w G β st bx cO w G β st' bx' r v:=by
 simp only[act0,if_true]at ha
 split at ha
 ·rename_i cs hread
  split at ha
  ·rename_i st1 v hw hv
   cases ha
   unfold writeP at hw
   split at hw
   ·rename_i id ver i k
    split at hw
    ·rename_i ve sz rows hst
     split at hw
     ·rename_i hver
      simp only[Bool.and_eq_true,decide_eq_true_eq]at hver
      obtain⟨rfl,_⟩:=hver
      split at hw
      ·rename_i row hrow
       split at hw
       ·rename_i hfit
        cases hw
        simp only[readP,hst,hrow,if_true]at hread
        obtain⟨loc,b,off,c,e,xs,hl,hmp,hlv,hra,hpv,hla,hcap,hblk,hheap,hle,hlen,htip,hvi,hrx,hcells⟩:=ptr_row hI hp hst hrow
        obtain⟨t1,t2,t3⟩:=took_row hrx hread (hra.cel row (mem_get hrow))
        obtain⟨hcs,hle2,hl2⟩:=cut_some hread
        have hxl:xs.length=row.length:=hrx.1.symm
        have hylen:((xs.drop k).take n).length=n:=by simp;omega
        have hrep:RepC w G cs ((xs.drop k).take n):=by rw[hcs];exact(hrx.drop k).take n
        obtain⟨u,h1,h2,h3⟩:=q_load ho hn hagg hone hpv hylen hrep (fun j z hz=>by
         rw[List.getElem?_take]at hz
         split at hz
         ·rw[List.getElem?_drop]at hz
          rw[show off+(i*sz+k)+j=off+(i*sz+(k+j)) by omega]
          exact hcells i xs (k+j) z hvi hz
         ·cases hz) hv
        refine⟨u,h1,act_set hI hB hX hl hst (Stp.refl w G) (set_self _ _ _ hl).symm ⟨hmp,hlv,?_⟩ hI.tips (fun b _ _=>⟨rfl,rfl⟩) (Nat.le_refl _) rfl rfl h2 fun b'=>?_⟩
        ·refine⟨fits_iff.2 fun r' hr'=>?_,fun r' hr'=>?_,by simp[hra.len],hra.size,by simp[hra.vlen],fun i' r' xs' h1 h2=>?_,.inr ⟨b,off,c,e,hla,hcap,hheap,hle,by simpa using hlen,htip,hcells⟩⟩
         ·rcases List.mem_or_eq_of_mem_set hr' with h|h
          ·exact fits_iff.1 hra.fit r' h
          ·rw[h,paste_length];exact fits_iff.1 hra.fit row (mem_get hrow)
         ·rcases List.mem_or_eq_of_mem_set hr' with h|h
          ·exact hra.cel r' h
          ·rw[h];exact t2
         ·rw[List.getElem?_set]at h1
          by_cases hii:i=i'
          ·subst hii
           rw[if_pos rfl]at h1
           split at h1
           ·cases h1
            rw[hvi]at h2;cases h2
            exact t1
           ·cases h1
          ·rw[if_neg hii]at h1
           exact hra.reps i' r' xs' h1 h2
        ·have h4:=cntLL_set b' rows loc.vals i row xs (paste row k (cs.map AV.took)) xs hrow hvi
         rw[set_self _ _ _ hvi]at h4
         have h5:=t3 b'
         have h6:=h3 b'
         simp only[cntE,cntO]
         omega
       ·cases hw
      ·cases hw
     ·cases hw
    ·cases hw
   ·cases hw
  ·cases ha
 ·cases ha
end Ax
namespace Ax
open Go
variable {P:Program}{w w':World}{G G':Ghost}{β β':List BxG}{ρ:Operand->Value}{o:Oper}
def BxStep (nb:Option Nat)(β β':List BxG):Prop:=∀(j:Nat) g,β[j]?=some g->∃g',β'[j]?=some g'/\(nb≠some j->g'.blk=g.blk)
theorem BxStep.refl (nb:Option Nat)(β:List BxG):BxStep nb β β:=fun _ g h=>⟨g,h,fun _=>rfl⟩
theorem BxStep.set {nb:Option Nat}{j:Nat}{g g':BxG}(hg:β[j]?=some g)(h:nb≠some j->g'.blk=g.blk):BxStep nb β (β.set j g'):=by
 intro i x hx
 by_cases hi:j=i
 ·subst hi
  rw[hg]at hx;cases hx
  exact⟨g',by rw[List.getElem?_set,if_pos rfl,if_pos (List.getElem?_eq_some_iff.1 hg).1],h⟩
 ·exact⟨x,by rw[List.getElem?_set,if_neg hi];exact hx,fun _=>rfl⟩
theorem act_boxset {st:Store}{bx:Boxes}{cO:Nat->Nat}(hI:Inv w G st)(hB:RepB w G β bx)(hX:∀b,cO b+cntB b β bx+cntS b G.ls st<=1){j:Nat}{g g':BxG}{row row':List AV}{e:Ent}{v:Value}
  (hg:β[j]?=some g) (hr:bx[j]?=some row) (hblk:g'.blk=g.blk) (hs:Stp w G w' G') (hls:G'.ls=G.ls) (hnew:BoxAt w' G' row' g') (ht:∀b p,G'.tip b=some p->b<w'.heap.size)
  (hun:∀b,b<w.heap.size->g.blk≠some b->Untouched w G w' G' b) (hsize:w.heap.size<=w'.heap.size) (hos:w'.os=w.os) (hout:w'.output=w.output) (hrep:RepE w' G' (β.set j g') e v)
  (hc:∀b,cntE b e v+cntL b row' g'.vals<=cO b+cntL b row g.vals):Act1 w G β st bx cO w' G' (β.set j g') st (bx.set j row') e v:=by
 have key:∀b,g.blk=some b->1<=(if g.blk=some b then 1 else 0)+cntL b row g.vals:=fun b h=>by rw[if_pos h];omega
 refine⟨hs,inv_keep hI hs hls (fun b hb=>hun b (hI.held hb) fun h=>?_) ht,⟨by simp[hB.len],fun i r x h1 h2=>?_⟩,hrep,fun b=>?_,fun b hb hlt=>hun b hlt fun h=>?_,hsize,hos,hout⟩
 ·have h1:=key b h
  have h2:=cntB_get b β bx j g row hg hr
  have:=hX b
  omega
 ·rw[List.getElem?_set]at h1 h2
  by_cases hij:j=i
  ·subst hij
   rw[if_pos rfl,if_pos (List.getElem?_eq_some_iff.1 hr).1]at h1
   rw[if_pos rfl,if_pos (List.getElem?_eq_some_iff.1 hg).1]at h2
   cases h1;cases h2;exact hnew
  ·rw[if_neg hij]at h1 h2
   refine(hB.box i r x h1 h2).stp hs fun b hb=>hun b (hB.held (b:=b) (by have:=cntB_get b β bx i x r h2 h1;omega)) fun h=>?_
   have h3:=key b h
   have h4:=cntB_two b β bx i j x r g row (fun e=>hij e.symm) h2 h1 hg hr
   have:=hX b
   omega
 ·have h1:=cntB_set b β bx j g row g' row' hg hr
  have h2:=hc b
  rw[hls]
  rw[hblk]at h1
  omega
 ·have h1:=key b h
  have h2:=cntB_get b β bx j g row hg hr
  omega
theorem box_row {bx:Boxes}(hB:RepB w G β bx){j k:Nat}{v:Value}{row:List AV}(hp:RepE w G β (.fp j k) v)(hr:bx[j]?=some row) :
  ∃g b c e,β[j]?=some g/\g.blk=some b/\v=.pointer (some ⟨b,k,none⟩)/\BoxAt w G row g/\w.heap[b]?=some (.cells c e (0,0))/\row.length<=c.size/\G.tip b=some 0/\∀(k:Nat) x,g.vals[k]?=some x->w.cell? ⟨b,k,none⟩=some x:=by
 obtain⟨g,b,h1,h2,h3⟩:=hp
 have hb:=hB.box j row g hr h1
 rcases hb.lies with⟨h0,_⟩|⟨b',c,e,h4,h5,h6,h7,h8⟩
 ·rw[h0]at h2;cases h2
 ·rw[h2]at h4;cases h4
  exact⟨g,b,c,e,h1,h2,h3,hb,h5,h6,h7,h8⟩
theorem q_storeF {t:TypeId}{x y:Operand}{j0 n:Nat}(ho:o.op=.store t x y)(hn:cellsIs P t n=true){st:Store}{bx:Boxes}(hI:Inv w G st)(hB:RepB w G β bx){cO:Nat->Nat}(hX:∀b,cO b+cntB b β bx+cntS b G.ls st<=1)
  {p v:Ent} (hp:RepE w G β p (ρ x)) (hv:RepE w G β v (ρ y)) (hcs:∀b,cntE b v (ρ y)<=cO b) {wl lim:Nat} {st':Store} {bx':Boxes} {r:Ent} (ha:act0 wl lim (.storeF j0 n) [p,v] st bx=some (r,st',bx')) :
  ∃w' G' β',(execOp ρ o).run P w=.ok .skip w'/\Act1 w G β st bx cO w' G' β' st' bx' r undef/\BxStep none β β':=by
 unfold act0 at ha
 simp only at ha
 split at ha
 ·rename_i j k v heq
  cases heq
  split at ha
  ·rename_i hcond
   simp only[Bool.and_eq_true,decide_eq_true_eq]at hcond
   obtain⟨⟨rfl,hvn⟩,hvc⟩:=hcond
   split at ha
   ·rename_i row hr
    split at ha
    ·rename_i hfit
     cases ha
     obtain⟨g,b,c,e,hg,hblk,hpv,hbox,hheap,hle,htip,hcells⟩:=box_row hB hp hr
     obtain⟨hcv,hcn⟩:=RepV.cells hv
     have hyl:(ρ y).cells.toList.length=n:=by rw[<-hvn];exact hcv.1.symm
     have hin:k+(ρ y).cells.toList.length<=c.size:=by omega
     have hst1:=run_storeCells_paste (P:=P) b k e (ρ y).cells.toList c w hheap hin (hcv.ones hvc)
     have hW:Wr w G (w.setRow b (paste c.toList k (ρ y).cells.toList).toArray) ⟨G.ls,fun b'=>if b'=b then some 0 else G.tip b'⟩ b:=wr_row hheap hin htip (Nat.zero_le _) (Nat.le_refl _) (ids_refl G)
     have hone:cO b=0/\cntL b row g.vals=0:=by
      have h1:=hX b
      have h2:=cntB_get b β bx j0 g row hg hr
      rw[if_pos hblk]at h2
      omega
     refine⟨_,⟨G.ls,fun b'=>if b'=b then some 0 else G.tip b'⟩,β.set j0 ⟨g.blk,paste g.vals k (ρ y).cells.toList⟩,?_,act_boxset hI hB hX hg hr rfl hW.stp rfl ⟨?_,allCells_paste hbox.cel hvc (by rw[hvn];exact hfit),.inr ⟨b,_,e,hblk,setRow_heap w b c _ e (0,0) hheap,?_,by simp,fun i z hz=>?_⟩⟩ (hW.tips hI) (fun b' _ hb'=>hW.untouched fun e=>hb' (by rw[hblk,e])) (by simp) rfl rfl trivial fun b'=>?_,BxStep.set hg fun _=>rfl⟩
     ·have hsz:(ρ y).cells.size=n:=by simpa using hyl
      simp only[execOp,ho,hpv,Sem.run_bind,Instr.storeAt,Instr.sureAddr,Sem.run_pure,Result.andThen_ok,storeVar,run_sizeOf_is hn,hsz,ne_eq,not_true_eq_false,if_false,hst1]
     ·refine(hbox.rep.mono hW.stp fun b' hb'=>hW.untouched fun e=>?_).paste (hcv.mono hW.stp fun b' hb'=>hW.untouched fun e=>?_) (by rw[hvn];exact hfit)
      ·subst e;omega
      ·subst e
       rw[hcn]at hb'
       have:=hcs b'
       simp only[cntE]at this
       omega
     ·rw[paste_length,List.size_toArray,paste_length];simpa using hle
     ·rw[setRow_cell hheap hin]
      simp only at hz
      rw[paste_get _ _ _ _ (by rw[hyl];rw[<-hbox.rep.1];exact hfit)]at hz
      split at hz
      ·rename_i hi;rw[if_pos hi];exact hz
      ·rename_i hi;rw[if_neg hi];exact hcells i z hz
     ·have h2:=cntL_paste b' row v.cells g.vals (ρ y).cells.toList k hbox.rep.1 hcv.1 (by rw[hvn];exact hfit)
      have h3:=hcs b'
      rw[hcn]at h2
      simp only[cntE]at h3 ⊢
      omega
    ·cases ha
   ·cases ha
  ·cases ha
 ·cases ha
theorem q_loadF {t:TypeId}{x:Operand}{j0 n:Nat}{agg take:Bool}(ho:o.op=.load t x)(hn:cellsIs P t n=true)(hagg:isAggT P t=some agg)(hone:agg=false->n=1){st:Store}{bx:Boxes}(hI:Inv w G st)(hB:RepB w G β bx){cO:Nat->Nat}(hX:∀b,cO b+cntB b β bx+cntS b G.ls st<=1)
  {p:Ent} (hp:RepE w G β p (ρ x)) {wl lim:Nat} {st':Store} {bx':Boxes} {r:Ent} (ha:act0 wl lim (.loadF j0 agg n take) [p] st bx=some (r,st',bx')) :
  ∃v,(execOp ρ o).run P w=.ok (.value v) w/\Act1 w G β st bx cO w G β st' bx' r v:=by
 unfold act0 at ha
 simp only at ha
 split at ha
 ·rename_i j k heq
  cases heq
  split at ha
  ·rename_i hj
   subst hj
   split at ha
   ·rename_i row hr
    split at ha
    ·rename_i cs hcut
     obtain⟨g,b,c,e,hg,hblk,hpv,hbox,hheap,hle,htip,hcells⟩:=box_row hB hp hr
     obtain⟨hcs,hle2,hl2⟩:=cut_some hcut
     have hxl:g.vals.length=row.length:=hbox.rep.1.symm
     have hylen:((g.vals.drop k).take n).length=n:=by simp;omega
     have hrep:RepC w G cs ((g.vals.drop k).take n):=by rw[hcs];exact(hbox.rep.drop k).take n
     have hcell:∀(j:Nat) y,((g.vals.drop k).take n)[j]?=some y->w.cell? ⟨b,k+j,none⟩=some y:=fun j z hz=>by
      rw[List.getElem?_take]at hz
      split at hz
      ·rw[List.getElem?_drop]at hz;exact hcells _ z hz
      ·cases hz
     split at ha
     ·split at ha
      ·rename_i v hv
       cases ha
       obtain⟨u,h1,h2,h3⟩:=q_load ho hn hagg hone hpv hylen hrep hcell hv
       obtain⟨t1,t2,t3⟩:=took_row hbox.rep hcut hbox.cel
       have:=act_boxset (e:=.val v) (v:=u) (g':=g) (row':=paste row k (cs.map AV.took)) hI hB hX hg hr rfl (Stp.refl w G) rfl ⟨t1,t2,.inr ⟨b,c,e,hblk,hheap,by rw[paste_length];exact hle,htip,hcells⟩⟩ hI.tips (fun b _ _=>⟨rfl,rfl⟩) (Nat.le_refl _) rfl rfl h2 fun b'=>by
        have h4:=t3 b'
        have h5:=h3 b'
        simp only[cntE]
        omega
       rw[set_self _ _ _ hg]at this
       exact⟨u,h1,this⟩
      ·cases ha
     ·split at ha
      ·rename_i v hv
       cases ha
       obtain⟨u,h1,h2,h3⟩:=q_load ho hn hagg hone hpv hylen hrep.view hcell hv
       refine⟨u,h1,Act1.quiet hI hB h2 fun d=>?_⟩
       simp only[cntE,h3 d]
       rw[cntL_noOwn d _ _ (noOwn_viewL cs)]
       omega
      ·cases ha
    ·cases ha
   ·cases ha
  ·cases ha
 ·cases ha
theorem cntLL_take (b:Nat):∀(n:Nat)(rs:List (List AV))(xs:List (List Value)),cntLL b (rs.take n) (xs.take n)<=cntLL b rs xs
 |0,rs,xs=>by simp[cntLL]
 |n+1,[],xs=>by simp[cntLL]
 |n+1,r::rs,[]=>by simp[cntLL]
 |n+1,r::rs,x::xs=>by
  have:=cntLL_take b n rs xs
  simp only[List.take_succ_cons,cntLL];omega
theorem q_sliceM {t e:TypeId}{x hi:Operand}{sz:Nat}(ho:o.op=.slice t x none (some hi) none)(hu:P.underlying t=some (.slice e))(hsz:cellsIs P e sz=true){st:Store}{bx:Boxes}(hI:Inv w G st)(hB:RepB w G β bx){cO:Nat->Nat}(hX:∀b,cO b+cntB b β bx+cntS b G.ls st<=1)
  {a h:AV} (ha:RepV w G a (ρ x)) (hh:RepV w G h (ρ hi)) {wl lim:Nat} {st':Store} {bx':Boxes} {r:Ent} (hact:act0 wl lim (.sliceM sz) [.val a,.val h] st bx=some (r,st',bx')) :
  ∃v G',(execOp ρ o).run P w=.ok (.value v) w/\Act1 w G β st bx cO w G' β st' bx' r v:=by
 unfold act0 at hact
 simp only at hact
 split at hact
 ·rename_i id ver n heq
  cases heq
  split at hact
  ·rename_i v s rows hst
   split at hact
   ·rename_i hc
    simp only[Bool.and_eq_true,decide_eq_true_eq]at hc
    obtain⟨⟨⟨⟨rfl,rfl⟩,h0⟩,h1⟩,_⟩:=hc
    cases hact
    obtain⟨loc,hl,hmp,hlv,hra⟩:=hI.loc hst
    generalize hxv:ρ x=xv at ha
    cases ha with
    |mu _ _ _ loc' hp hl' hv' he=>
    rw[hl]at hl';cases hl'
    have hval:=he (by omega)
    subst hval
    have hcap:rows.length<=loc.cap:=by
     rcases hra.lies with⟨h0,h1,_⟩|⟨b,off,c,e',hla,hcap,hheap,hsz,hlen,htip,hcells⟩
     ·rw[h1];simp
     ·exact hlen
    have hhv:=hh.int_inv
    have hrun:(execOp ρ o).run P w=.ok (.value (.slice loc.a n.toNat loc.cap)) w:=by
     simp only[execOp,ho,hxv,Sem.run_bind]
     have hb:(Instr.sliceBounds true loc.len loc.cap none (some (ρ hi)) none).run P w=.ok (0,n.toNat,loc.cap) w:=by
      have:=run_sliceBounds (P:=P) (isS:=true) (len:=loc.len) (cap:=loc.cap) (lo:=none) (hi:=some hi) (ρ:=ρ) (a:=0) (b:=n) (.inl ⟨rfl,rfl⟩) (.inr ⟨hi,rfl,hhv⟩) (by omega) h0 (by omega) w
      simpa using this
     simp only[Instr.sliceAt,Sem.run_bind,run_underlying hu,Result.andThen_ok,Instr.slice,Option.map_none,Option.map_some,hb,run_sizeOf_is hsz,Sem.run_pure]
     rcases hra.lies with⟨h0,h1,_⟩|⟨b,off,c,e',hla,hcap,hheap,hsz,hlen,htip,hcells⟩
     ·simp[h0]
     ·simp[hla,addr_add,show ¬loc.cap=0 by omega]
    have hs':Stp w G w (G.at id ⟨loc.a,loc.cap,n.toNat,loc.sz,v+1,false,loc.vals.take n.toNat⟩):=stp_at hl (by simp;omega) fun h=>by rcases h with h|h<;>simp_all<;>omega
    refine⟨_,_,hrun,act_set (loc':=⟨loc.a,loc.cap,n.toNat,loc.sz,v+1,false,loc.vals.take n.toNat⟩) hI hB hX hl hst hs' rfl ⟨rfl,rfl,?_⟩ hI.tips (fun b _ _=>⟨rfl,rfl⟩) (Nat.le_refl _) rfl rfl (.mu _ _ _ _ ⟨_,_,_,rfl⟩ (by simp only[Ghost.at];rw[List.getElem?_set,if_pos rfl,if_pos (List.getElem?_eq_some_iff.1 hl).1]) (Nat.le_refl _) fun _=>rfl) fun b=>?_⟩
    ·have hold:=RepO.stp (w':=w) (show RepO w G (.rows v s rows) loc from⟨hmp,hlv,hra⟩) hs' fun b _=>⟨rfl,rfl⟩
     obtain⟨_,_,h3⟩:=hold
     refine⟨fits_iff.2 fun r hr=>fits_iff.1 h3.fit r (List.mem_of_mem_take hr),fun r hr=>h3.cel r (List.mem_of_mem_take hr),by simp;omega,h3.size,by simp[h3.vlen],fun i r xs e1 e2=>?_,?_⟩
     ·simp only at e2
      rw[List.getElem?_take]at e1 e2
      split at e1
      ·rename_i hlt;rw[if_pos hlt]at e2;exact h3.reps i r xs e1 e2
      ·cases e1
     ·rcases h3.lies with⟨h0,h1,h2⟩|⟨b,off,c,e',hla,hcap,hheap,hsz,hlen,htip,hcells⟩
      ·exact .inl ⟨h0,by rw[h1];simp,h2⟩
      ·refine .inr ⟨b,off,c,e',hla,hcap,hheap,hsz,by simp;omega,htip,fun i xs j z e1 e2=>?_⟩
       simp only at e1
       rw[List.getElem?_take]at e1
       split at e1
       ·exact hcells i xs j z e1 e2
       ·cases e1
    ·have h2:=cntLL_take b n.toNat rows loc.vals
     simp only[cntE,cnt]
     show 0+((if loc.blk=some b then 1 else 0)+cntLL b (rows.take n.toNat) (loc.vals.take n.toNat))<=cO b+((if loc.blk=some b then 1 else 0)+cntLL b rows loc.vals)+_
     omega
   ·cases hact
  ·cases hact
 ·cases hact
end Ax
namespace Ax
open Go
variable {P:Program}{w w':World}{G G':Ghost}{β β':List BxG}{ρ:Operand->Value}{o:Oper}
theorem run_setObj {r:Nat}{es:Array MapEntry}{clock:Nat}{ob:Obj}(h:w.heap[r]?=some (.map es clock)):(setObj r ob).run P w=.ok () { w with heap:=w.heap.setIfInBounds r ob }:=by
 simp[setObj,Sem.run,h]
theorem put_ok {t:TypeId}{kk:SK}(ht:keyT P t kk=true){k v:AV}{x y:Value}(hk:RepV w G k x)(hv:RepV w G v y)(hkn:k.noOwn=true)(hvn:v.noOwn=true):∀(es es':List (AV×AV))(fs:List MapEntry),RepM w G es fs->putV kk k v es=some es'->
  (∃i e u,findV kk k es=some (some u)/\fs[i]?=some e/\(∀(q:Option (Nat×Value)),(Instr.findKey t x fs).run P w=.ok q w->∃val,q=some (i,val))/\eqS kk k (es[i]?.map (·.1) |>.getD .undef)=some true/\(∃a,es[i]?=some a/\RepV w G a.1 e.key)/\RepM w G es' (fs.set i { e with key:=x,val:=y }))\/
  (findV kk k es=some none/\∀born,RepM w G es' (fs++[{ key:=x,val:=y,born:=born }])):=by
 have hu:∃d,P.underlying t=some d:=by
  unfold keyT at ht
  cases kk<;>simp only at ht<;>split at ht<;>(try cases ht)<;>exact⟨_,by assumption⟩
 obtain⟨d,hu⟩:=hu
 intro es
 induction es with
 |nil=>
  intro es' fs hM h
  simp only[putV,Option.some.injEq]at h
  subst h
  have h0:fs=[]:=List.eq_nil_of_length_eq_zero (by simpa using hM.1)
  subst h0
  refine .inr ⟨rfl,fun born=>⟨rfl,fun i a b e h1 h2=>?_⟩⟩
  cases i with
  |zero=>simp at h1 h2;obtain⟨rfl,rfl⟩:=h1;subst h2;exact⟨hk,hv,hvn,hkn⟩
  |succ i=>simp at h1
 |cons c es ih=>
  intro es' fs hM h
  obtain⟨a,u⟩:=c
  cases fs with
  |nil=>have:=hM.1;simp at this
  |cons f fs=>
   obtain⟨g1,g2,g3,g4⟩:=hM.2 0 a u f rfl rfl
   simp only[putV]at h
   split at h
   ·rename_i he
    cases h
    refine .inl ⟨0,f,u,by simp[findV,he],rfl,fun q hq=>?_,by simpa using he,⟨(a,u),rfl,g1⟩,?_⟩
    ·have hs:=sameNow_ok ht hu he hk g1
     have:(Instr.findKey t x (f::fs)).run P w=.ok (some (0,f.val)) w:=by simp[Instr.findKey,run_underlying hu,Instr.findNow,hs]
     rw[this]at hq;cases hq;exact⟨_,rfl⟩
    ·refine⟨by simpa using hM.1,fun i p q e h1 h2=>?_⟩
     cases i with
     |zero=>simp at h1 h2;obtain⟨rfl,rfl⟩:=h1;subst h2;exact⟨hk,hv,hvn,hkn⟩
     |succ i=>exact hM.2 (i+1) p q e (by simpa using h1) (by simpa using h2)
   ·rename_i he
    split at h
    ·rename_i r' hr'
     cases h
     have hs:=sameNow_ok ht hu he hk g1
     have hlift:∀es2 fs2,RepM w G es2 fs2->RepM w G ((a,u)::es2) (f::fs2):=fun es2 fs2 h2=>⟨by simp[h2.1],fun i p q e e1 e2=>by
      cases i with
      |zero=>simp at e1 e2;obtain⟨rfl,rfl⟩:=e1;subst e2;exact⟨g1,g2,g3,g4⟩
      |succ i=>exact h2.2 i p q e (by simpa using e1) (by simpa using e2)⟩
     rcases ih r' fs hM.tail hr' with⟨i,e,u',f1,f2,f3,f4,f5,f6⟩|⟨f1,f2⟩
     ·refine .inl ⟨i+1,e,u',by simp[findV,he,f1],by simpa using f2,fun q hq=>?_,by simpa using f4,by simpa using f5,by simpa using hlift _ _ f6⟩
      obtain⟨q0,e1,e2⟩:=findNow_ok ht hu hk es fs 0 _ hM.tail f1
      obtain⟨q1,e3,e4⟩:=findNow_ok ht hu hk es fs 1 _ hM.tail f1
      obtain⟨j0,e0,a1,_⟩:=e2
      obtain⟨j1,e0',b1,b2,_⟩:=e4
      have h0:(Instr.findKey t x fs).run P w=.ok q0 w:=by simp[Instr.findKey,run_underlying hu,e1]
      obtain⟨val,hval⟩:=f3 q0 h0
      have:(Instr.findKey t x (f::fs)).run P w=.ok q1 w:=by simp[Instr.findKey,run_underlying hu,Instr.findNow,hs,e3]
      rw[this]at hq;cases hq
      have key:∀(fs:List MapEntry) (s:Nat) (q:Option (Nat×Value)),Instr.findNow d x fs s=some q->Instr.findNow d x fs (s+1)=some (q.map fun z=>(z.1+1,z.2)):=by
       intro fs
       induction fs with
       |nil=>intro s q h;simp[Instr.findNow]at h ⊢;subst h;rfl
       |cons f fs ih=>
        intro s q h
        simp only[Instr.findNow]at h ⊢
        cases hsn:Instr.sameNow d x f.key with
        |none=>rw[hsn]at h;simp at h
        |some b=>
         rw[hsn]at h
         cases b with
         |true=>simp at h ⊢;subst h;rfl
         |false=>simp at h ⊢;exact ih _ _ h
      have h3:=key fs 0 q0 e1
      rw[Nat.zero_add]at h3
      rw[e3]at h3
      cases h3
      rw[hval]
      exact⟨val,rfl⟩
     ·exact .inr ⟨by simp[findV,he,f1],fun born=>hlift _ _ (f2 born)⟩
    ·cases h
   ·cases h
theorem sameBits_of {kk:SK}{a b:AV}{x y:Value}(h:eqS kk a b=some true)(ha:RepV w G a x)(hb:RepV w G b y)(n:Nat):Instr.sameBits n y x=true:=by
 unfold eqS at h
 split at h
 ·simp only[Option.some.injEq,beq_iff_eq]at h
  rw[ha.bool_inv,hb.bool_inv,h];simp[Instr.sameBits]
 ·split at h
  ·rename_i hkl
   subst hkl
   simp only[Option.some.injEq,beq_iff_eq]at h
   rw[ha.int_inv,hb.int_inv,h];simp[Instr.sameBits]
  ·cases h
 ·simp only[Option.some.injEq,beq_iff_eq]at h
  obtain⟨s,rfl,rfl⟩:=ha.str_inv
  obtain⟨s',rfl,h2⟩:=hb.str_inv
  have:s=s':=ByteArray.ext (Array.toList_inj.1 (h.trans h2.symm))
  subst this
  simp only[Instr.sameBits]
  rw[beq_toListBytes];exact beq_self_eq_true _
 ·cases h
theorem q_mapUpdate {t kt et:TypeId}{m k x:Operand}(ho:o.op=.mapUpdate t m k x\/o.op=.insert t m k x)(hu:P.underlying t=some (.map kt et)){kk:SK}(ht:keyT P kt kk=true){st:Store}{bx:Boxes}(hI:Inv w G st)(hB:RepB w G β bx){cO:Nat->Nat}(hX:∀b,cO b+cntB b β bx+cntS b G.ls st<=1)
  {am ak av:AV} (hm:RepV w G am (ρ m)) (hk:RepV w G ak (ρ k)) (hv:RepV w G av (ρ x)) {wl lim:Nat} {st':Store} {bx':Boxes} {r:Ent} (ha:act0 wl lim (.mapUpdate kk) [.val am,.val ak,.val av] st bx=some (r,st',bx')) :
  ∃w' G',(execOp ρ o).run P w=.ok .skip w'/\Act1 w G β st bx cO w' G' β st' bx' r undef:=by
 unfold act0 at ha
 simp only at ha
 split at ha
 ·rename_i id k0 v0 heq
  cases heq
  split at ha
  ·rename_i es hst
   split at ha
   ·rename_i hcond
    simp only[Bool.and_eq_true]at hcond
    split at ha
    ·rename_i es' hput
     cases ha
     have hkn:ak.noOwn=true:=by
      have:=hcond.1
      unfold isKey at this
      split at this<;>first|rfl|cases this
     obtain⟨loc,hl,ho'⟩:=hI.loc hst
     obtain⟨g1,g2,b,fs,clock,g3,g4,g5,g6,g7⟩:=ho'
     have hmv:ρ m=.map (some b):=by
      generalize ρ m=mv at hm
      cases hm with
      |map _ loc' bk hl' hmp hb'=>rw[hl]at hl';cases hl';rw[hb']at g3;cases g3;rfl
     have hblk:loc.blk=some b:=by unfold Loc.blk;rw[if_neg (by omega),g3];rfl
     have hM:RepM w G es fs.toList:=⟨by simpa using g6,fun i a v e e1 e2=>g7 i a v e e1 (by simpa using e2)⟩
     have hgo:(getObj b).run P w=.ok (.map fs clock) w:=by simp[getObj,Sem.run,g4]
     have hck:=run_checkKey (w:=w) ht false 9999 (ρ k)
     have fin:∀(fs':Array MapEntry) (clock':Nat),RepM w G es' fs'.toList->
       Act1 w G β st bx cO { w with heap:=w.heap.setIfInBounds b (.map fs' clock') } ⟨(G.at id loc).ls,fun b'=>if b'=b then some 0 else G.tip b'⟩ β (st.set id (.map es')) bx .none undef:=by
      intro fs' clock' hM'
      have hlt:b<w.heap.size:=(Array.getElem?_eq_some_iff.1 g4).1
      have hW:Wr w G { w with heap:=w.heap.setIfInBounds b (.map fs' clock') } ⟨(G.at id loc).ls,fun b'=>if b'=b then some 0 else G.tip b'⟩ b:=
       ⟨by simp,fun b' hb'=>by simp only[Array.getElem?_setIfInBounds];rw[if_neg fun e=>hb' e.symm],fun b' hb'=>by simp[hb'],⟨0,0,g5,by simp,Nat.le_refl _,fun o ho=>by omega⟩,ids_at hl (Nat.le_refl _) fun _=>rfl⟩
      refine act_set hI hB hX hl hst hW.stp rfl ⟨g1,g2,b,fs',clock',g3,?_,by simp,by simpa using hM'.1,fun i a v e e1 e2=>?_⟩ (hW.tips hI) (fun b' _ hb'=>hW.untouched fun e=>hb' (by rw[hblk,e])) (by simp) rfl rfl trivial fun b'=>by simp only[cntE,cntO];omega
      ·simp only[Array.getElem?_setIfInBounds];rw[if_pos trivial,if_pos hlt]
      ·obtain⟨h1,h2,h3,h4⟩:=hM'.2 i a v e e1 (by simpa using e2)
       exact⟨h1.stp hW.stp fun b hb=>by rw[cnt_noOwn b a _ h4]at hb;omega,h2.stp hW.stp fun b hb=>by rw[cnt_noOwn b v _ h3]at hb;omega,h3,h4⟩
     have head:∀(w':World),(Instr.mapUpdate t (.map (some b)) (ρ k) (ρ x)).run P w=.ok () w'->(execOp ρ o).run P w=.ok .skip w':=by
      intro w' h
      rcases ho with ho|ho<;>simp only[execOp,ho,hmv,Sem.run_bind,h,Result.andThen_ok,Sem.run_pure]
     rcases put_ok ht hk hv.view hkn (noOwn_view av) es es' fs.toList hM hput with⟨i,e,u,f1,f2,f3,f4,⟨a,f5,f6⟩,f7⟩|⟨f1,f2⟩
     ·obtain⟨q,e1,e2⟩:=run_findKey ht hk hM f1 w
      obtain⟨val,rfl⟩:=f3 q e1
      have hfi:fs[i]?=some e:=by simpa using f2
      refine⟨_,_,head _ ?_,fin (fs.modify i fun e=>{ e with key:=ρ k,val:=ρ x }) clock ?_⟩
      ·rw[f5]at f4
       have hsb:=sameBits_of f4 hk f6 10000
       simp only[Instr.mapUpdate,Sem.run_bind,run_underlying hu,Result.andThen_ok,hgo,hck,e1,hfi,Option.map_some,Option.getD_some,Instr.keyThatStays,hsb,if_true,Sem.run_pure,run_setObj g4]
      ·have:(fs.modify i fun e=>{ e with key:=ρ k,val:=ρ x }).toList=fs.toList.set i { e with key:=ρ k,val:=ρ x }:=by
        rw[Array.toList_modify]
        apply List.ext_getElem?
        intro j
        rw[List.getElem?_modify,List.getElem?_set]
        by_cases hij:i=j
        ·subst hij
         simp[(Array.getElem?_eq_some_iff.1 hfi).1,(Array.getElem?_eq_some_iff.1 hfi).2]
        ·simp[hij]
       rw[this]
       exact f7
     ·obtain⟨q,e1,e2⟩:=run_findKey ht hk hM f1 w
      simp only at e2
      subst e2
      refine⟨_,_,head _ ?_,fin (fs.push { key:=ρ k,val:=ρ x,born:=clock }) (clock+1) (by rw[Array.toList_push];exact f2 clock)⟩
      simp only[Instr.mapUpdate,Sem.run_bind,run_underlying hu,Result.andThen_ok,hgo,hck,e1,run_setObj g4]
    ·cases ha
   ·cases ha
  ·cases ha
 ·cases ha
end Ax
namespace Ax
open Go
variable {P:Program}{w w':World}{G G':Ghost}{β β':List BxG}{ρ:Operand->Value}{o:Oper}
structure Frz (w:World)(G:Ghost)(st:Store)(G':Ghost)(st':Store):Prop where
 stp:Stp w G w G'
 inv:Inv w G' st'
 cnt:∀b,cntS b G'.ls st'<=cntS b G.ls st
 far:∀b,cntS b G.ls st=0->G'.tip b=G.tip b
theorem Frz.refl {st:Store}(hI:Inv w G st):Frz w G st G st:=⟨Stp.refl w G,hI,fun _=>Nat.le_refl _,fun _ _=>rfl⟩
theorem Frz.trans {G1 G2:Ghost}{st st1 st2:Store}(h:Frz w G st G1 st1)(k:Frz w G1 st1 G2 st2):Frz w G st G2 st2:=
 ⟨h.stp.trans k.stp,k.inv,fun b=>Nat.le_trans (k.cnt b) (h.cnt b),fun b hb=>(k.far b (by have:=h.cnt b;omega)).trans (h.far b hb)⟩
mutual
theorem isPure_view:∀a:AV,a.isPure=true->a.view.isPure=true
 |.own _ _,_=>by simp[AV.view,AV.isPure]
 |.agg cs,h=>by simp only[AV.view,AV.isPure]at *;exact allPure_viewL cs h
 |.tup cs,h=>by simp only[AV.view,AV.isPure]at *;exact allPure_viewL cs h
 |.undef,h|.gone,h|.bool _,h|.int _ _,h|.str _,h|.nilPtr,h|.nilSl,h|.nilMap,h|.nilFn,h|.nilIf,h|.lst _ _,h|.emp,h|.mu _ _,h|.ptr _ _ _ _,h|.pel _ _ _ _,h|.map _,h|.fn _ _ _,h=>by simpa [AV.view] using h
theorem allPure_viewL:∀cs:List AV,AV.allPure cs=true->AV.allPure (AV.viewL cs)=true
 |[],_=>rfl
 |c::cs,h=>by
  simp only[AV.allPure,Bool.and_eq_true]at h
  simp only[AV.viewL,AV.allPure,isPure_view c h.1,allPure_viewL cs h.2,Bool.and_self]
end
theorem RepV.noOwn_stp {a:AV}{v:Value}(h:RepV w G a v)(hs:Stp w G w' G')(hn:a.noOwn=true):RepV w' G' a v:=h.stp hs fun b hb=>by rw[cnt_noOwn b a v hn]at hb;omega
def emptied (sz ver:Nat):Loc:=⟨some ⟨0,0,none⟩,0,0,sz,ver+1,false,[]⟩
theorem repO_emptied (sz ver:Nat):RepO w G (.rows (ver+1) sz []) (emptied sz ver):=
 ⟨rfl,rfl,by simp[fits],by simp,rfl,rfl,rfl,fun i r xs h=>by simp at h,.inl ⟨rfl,rfl,rfl⟩⟩
theorem frz_empty {st:Store}(hI:Inv w G st){id ver sz:Nat}{rows:List (List AV)}{loc:Loc}(hst:st[id]?=some (.rows ver sz rows))(hl:G.ls[id]?=some loc)(hmp:loc.mp=false)(hlv:loc.ver=ver) :
  Frz w G st (G.at id (emptied sz ver)) (st.set id (.rows (ver+1) sz []))/\∀b,cntS b (G.at id (emptied sz ver)).ls (st.set id (.rows (ver+1) sz []))+cntO b loc (.rows ver sz rows)=cntS b G.ls st:=by
 have hs:Stp w G w (G.at id (emptied sz ver)):=stp_at hl (by simp only[emptied];omega) fun h=>by
  rcases h with h|h
  ·simp only[emptied]at h;omega
  ·rw[hmp]at h;cases h
 have hc:∀b,cntS b (G.at id (emptied sz ver)).ls (st.set id (.rows (ver+1) sz []))+cntO b loc (.rows ver sz rows)=cntS b G.ls st:=fun b=>by
  have:=cntS_set b G.ls st id loc _ (emptied sz ver) (.rows (ver+1) sz []) hl hst
  have h0:cntO b (emptied sz ver) (.rows (ver+1) sz [])=0:=by simp[cntO,emptied,Loc.blk,cntLL]
  rw[h0]at this
  exact this
 exact⟨⟨hs,inv_set hI hs rfl (fun _ _ _ b _ _ _ _=>⟨rfl,rfl⟩) (repO_emptied sz ver) hI.tips,fun b=>by have:=hc b;omega,fun _ _=>rfl⟩,hc⟩
def Ghost.shut (G:Ghost)(b:Nat):Ghost:=⟨G.ls,fun b'=>if b'=b then none else G.tip b'⟩
theorem frz_shut {st:Store}(hI:Inv w G st){b:Nat}(hb:G.tip b=some 0)(h0:cntS b G.ls st=0):Stp w G w (G.shut b)/\Inv w (G.shut b) st:=by
 have hs:Stp w G w (G.shut b):=⟨fun b' o hi=>⟨rfl,hi.1,fun p hp=>by
  simp only[Ghost.shut]at hp
  split at hp
  ·cases hp
  ·exact hi.2 p hp⟩,ids_refl G⟩
 refine⟨hs,inv_keep hI hs rfl (fun b' hb'=>⟨?_,rfl⟩) fun b' p hp=>?_⟩
 ·simp only[Ghost.shut];rw[if_neg];intro e;subst e;omega
 ·simp only[Ghost.shut]at hp
  split at hp
  ·cases hp
  ·exact hI.tips b' p hp
theorem rep_shut {sz b off cap:Nat}{rows:List (List AV)}{vals:List (List Value)}(hfit:fits sz rows=true)(hcel:∀r∈rows,AV.allCells r=true)(hno:∀r∈rows,AV.noOwnL r=true)(hpu:∀r∈rows,AV.allPure r=true)
  (hlen:vals.length=rows.length) (hreps:∀(i:Nat) r xs,rows[i]?=some r->vals[i]?=some xs->RepC w G r xs) (hcap:rows.length<=cap) (hb:b<w.heap.size) (ht:G.tip b=none)
  (hcells:∀(i:Nat) xs (j:Nat) x,vals[i]?=some xs->xs[j]?=some x->w.cell? ⟨b,off+(i*sz+j),none⟩=some x):RepV w G (.lst sz rows) (.slice (some ⟨b,off,none⟩) rows.length cap):=by
 have key:∀(i:Nat) r (j:Nat) c,rows[i]?=some r->r[j]?=some c->∃v,w.cell? ⟨b,off+(i*sz+j),none⟩=some v/\RepV w G c v:=by
  intro i r j c h1 h2
  have hi:i<vals.length:=by rw[hlen];exact(List.getElem?_eq_some_iff.1 h1).1
  have hv:=List.getElem?_eq_getElem hi
  obtain⟨e1,e2⟩:=hreps i r _ h1 hv
  have hj:j<vals[i].length:=by rw[<-e1];exact(List.getElem?_eq_some_iff.1 h2).1
  exact⟨_,hcells i _ j _ hv (List.getElem?_eq_getElem hj),e2 j c _ h2 (List.getElem?_eq_getElem hj)⟩
 refine .lst sz rows ⟨b,off,none⟩ cap rfl hcap hfit hno hpu hcel (fun i r j c h1 h2=>⟨⟨hb,fun p hp=>by simp only at hp;rw[ht]at hp;cases hp⟩,?_⟩) fun i r j c v h1 h2 h3=>?_
 ·obtain⟨v,h,_⟩:=key i r j c h1 h2;exact⟨v,h⟩
 ·obtain⟨v',h,h'⟩:=key i r j c h1 h2
  rw[h]at h3;cases h3;exact h'
theorem freezeC_ok {wl:Nat}{st st':Store}{a a':AV}{v:Value}(hI:Inv w G st)(hX:∀b,cntS b G.ls st<=1)(h:RepV w G a v)(hf:freezeC wl a st=some (a',st')) :
  ∃G',Frz w G st G' st'/\RepV w G' a' v/\a'.noOwn=true/\a'.isPure=true/\a'.isCell=true:=by
 unfold freezeC at hf
 split at hf
 ·rename_i id ver
  split at hf
  ·rename_i v0 sz rows hst
   split at hf
   ·rename_i hc
    simp only[Bool.and_eq_true,decide_eq_true_eq,Bool.not_eq_true',List.all_eq_true]at hc
    obtain⟨⟨⟨rfl,hpu⟩,hne⟩,_⟩:=hc
    cases hf
    obtain⟨loc,hl,hmp,hlv,hra⟩:=hI.loc hst
    cases h with
    |mu _ _ _ loc' hp hl' hv' he=>
    rw[hl]at hl';cases hl'
    have hval:=he (by omega)
    subst hval
    rcases hra.lies with⟨_,hnil,_⟩|⟨b,off,c,e',hla,hcap,hheap,hsz,hlen,htip,hcells⟩
    ·subst hnil;simp at hne
    obtain⟨f1,f2⟩:=frz_empty hI hst hl hmp hlv
    have hblk:loc.blk=some b:=by unfold Loc.blk;rw[if_neg (by omega),hla];rfl
    have h0:cntS b (G.at id (emptied sz v0)).ls (st.set id (.rows (v0+1) sz []))=0:=by
     have h1:=f2 b
     have h2:=hX b
     simp only[cntO,hblk,if_true]at h1
     omega
    obtain⟨g1,g2⟩:=frz_shut f1.inv (b:=b) (by exact htip) h0
    refine⟨(G.at id (emptied sz v0)).shut b,⟨f1.stp.trans g1,g2,f1.cnt,fun b' hb'=>?_⟩,?_,by simp[AV.noOwn],by simp[AV.isPure],by simp[AV.isCell]⟩
    ·simp only[Ghost.shut,Ghost.at]
     rw[if_neg]
     intro e;subst e
     have h1:=f2 b'
     simp only[cntO,hblk,if_true]at h1
     omega
    ·rw[hla,hra.len,show rows.length=(rows.map AV.viewL).length by simp]
     refine rep_shut (vals:=loc.vals) (fits_iff.2 fun r hr=>?_) (fun r hr=>?_) (fun r hr=>?_) (fun r hr=>?_) (by simpa using hra.vlen) (fun i r xs h1 h2=>?_) (by simpa using hlen) (Array.getElem?_eq_some_iff.1 hheap).1 (by simp[Ghost.shut]) hcells
     ·obtain⟨r',hr',rfl⟩:=List.mem_map.1 hr
      rw[viewL_length];exact fits_iff.1 hra.fit r' hr'
     ·obtain⟨r',hr',rfl⟩:=List.mem_map.1 hr
      rw[allCells_viewL];exact hra.cel r' hr'
     ·obtain⟨r',hr',rfl⟩:=List.mem_map.1 hr
      exact noOwn_viewL r'
     ·obtain⟨r',hr',rfl⟩:=List.mem_map.1 hr
      exact allPure_viewL r' (hpu r' hr')
     ·simp only[List.getElem?_map,Option.map_eq_some_iff]at h1
      obtain⟨r',h1,rfl⟩:=h1
      refine(hra.reps i r' xs h1 h2).view.mono (f1.stp.trans g1) fun b' hb'=>?_
      rw[cntL_noOwn b' _ _ (noOwn_viewL r')]at hb';omega
   ·cases hf
  ·cases hf
 ·split at hf
  ·rename_i hc
   simp only[Bool.and_eq_true]at hc
   cases hf
   exact⟨G,Frz.refl hI,h.view,noOwn_view a,isPure_view a hc.1,by rw[isCell_view];exact hc.2⟩
  ·cases hf
theorem freezeL_ok {wl:Nat}:∀{l l':List AV}{xs:List Value}{G:Ghost}{st st':Store},Inv w G st->(∀b,cntL b l xs+cntS b G.ls st<=1)->RepC w G l xs->freezeL wl l st=some (l',st')->
  ∃G',Frz w G st G' st'/\RepC w G' l' xs/\AV.noOwnL l'=true/\AV.allPure l'=true/\AV.allCells l'=true
 |[],l',xs,G,st,st',hI,hX,h,hf=>by
  simp only[freezeL,Option.some.injEq,Prod.mk.injEq]at hf
  obtain⟨rfl,rfl⟩:=hf
  exact⟨G,Frz.refl hI,h,rfl,rfl,rfl⟩
 |a::l,l',xs,G,st,st',hI,hX,h,hf=>by
  simp only[freezeL]at hf
  split at hf
  ·rename_i a1 st1 h1
   split at hf
   ·rename_i l2 st2 h2
    cases hf
    cases xs with
    |nil=>have:=h.1;simp at this
    |cons x xs=>
    obtain⟨G1,f1,f2,f3,f4,f5⟩:=freezeC_ok hI (fun b=>by have:=hX b;omega) (h.2 0 a x rfl rfl) h1
    have hrest:RepC w G l xs:=⟨by simpa using h.1,fun i c v e1 e2=>h.2 (i+1) c v (by simpa using e1) (by simpa using e2)⟩
    have hX1:∀b,cntL b l xs+cntS b G1.ls st1<=1:=fun b=>by
     have e1:=hX b
     have e2:=f1.cnt b
     simp only[cntL]at e1
     omega
    obtain⟨G2,g1,g2,g3,g4,g5⟩:=freezeL_ok f1.inv hX1 (hrest.mono f1.stp fun b hb=>⟨f1.far b (by have:=hX b;simp only[cntL]at this;omega),rfl⟩) h2
    refine⟨G2,f1.trans g1,⟨by simp[g2.1],fun i c v e1 e2=>?_⟩,by simp[AV.noOwnL,f3,g3],by simp[AV.allPure,f4,g4],?_⟩
    ·cases i with
     |zero=>simp at e1 e2;subst e1;subst e2;exact f2.noOwn_stp g1.stp f3
     |succ i=>exact g2.2 i c v (by simpa using e1) (by simpa using e2)
    ·simp only[AV.allCells,List.all_cons,Bool.and_eq_true]at g5 ⊢
     exact⟨f5,g5⟩
   ·cases hf
  ·cases hf
theorem freezeL_length {wl:Nat}:∀{l l':List AV}{st st':Store},freezeL wl l st=some (l',st')->l'.length=l.length
 |[],l',st,st',hf=>by simp only[freezeL,Option.some.injEq,Prod.mk.injEq]at hf;obtain⟨rfl,_⟩:=hf;rfl
 |a::l,l',st,st',hf=>by
  simp only[freezeL]at hf
  split at hf
  ·split at hf
   ·rename_i h2;cases hf;simp[freezeL_length h2]
   ·cases hf
  ·cases hf
theorem freezeLL_ok {wl:Nat}:∀{l l':List (List AV)}{xs:List (List Value)}{G:Ghost}{st st':Store},Inv w G st->(∀b,cntLL b l xs+cntS b G.ls st<=1)->l.length=xs.length->(∀(i:Nat) r x,l[i]?=some r->xs[i]?=some x->RepC w G r x)->freezeLL wl l st=some (l',st')->
  ∃G',Frz w G st G' st'/\l'.length=l.length/\(∀(i:Nat) r x,l'[i]?=some r->xs[i]?=some x->RepC w G' r x)/\(∀(i:Nat) r r',l[i]?=some r->l'[i]?=some r'->r'.length=r.length)/\(∀r∈l',AV.noOwnL r=true)/\(∀r∈l',AV.allPure r=true)/\(∀r∈l',AV.allCells r=true)
 |[],l',xs,G,st,st',hI,hX,hl,h,hf=>by
  simp only[freezeLL,Option.some.injEq,Prod.mk.injEq]at hf
  obtain⟨rfl,rfl⟩:=hf
  exact⟨G,Frz.refl hI,rfl,h,fun i r r' e=>by simp at e,by simp,by simp,by simp⟩
 |a::l,l',xs,G,st,st',hI,hX,hl,h,hf=>by
  simp only[freezeLL]at hf
  split at hf
  ·rename_i a1 st1 h1
   split at hf
   ·rename_i l2 st2 h2
    cases hf
    cases xs with
    |nil=>simp at hl
    |cons x xs=>
    obtain⟨G1,f1,f2,f3,f4,f5⟩:=freezeL_ok hI (fun b=>by have:=hX b;simp only[cntLL]at this;omega) (h 0 a x rfl rfl) h1
    have hX1:∀b,cntLL b l xs+cntS b G1.ls st1<=1:=fun b=>by
     have e1:=hX b
     have e2:=f1.cnt b
     simp only[cntLL]at e1
     omega
    obtain⟨G2,g1,g2,g3,g4,g5,g6,g7⟩:=freezeLL_ok f1.inv hX1 (by simpa using hl) (fun i r y e1 e2=>(h (i+1) r y (by simpa using e1) (by simpa using e2)).mono f1.stp fun b hb=>⟨f1.far b (by
     have e3:=hX b
     have e4:=cntLL_get b l xs i r y e1 e2
     simp only[cntLL]at e3;omega),rfl⟩) h2
    refine⟨G2,f1.trans g1,by simp[g2],fun i r y e1 e2=>?_,fun i r r' e1 e2=>?_,fun r hr=>?_,fun r hr=>?_,fun r hr=>?_⟩
    ·cases i with
     |zero=>simp at e1 e2;subst e1;subst e2;exact f2.mono g1.stp fun b hb=>by rw[cntL_noOwn b _ _ f3]at hb;omega
     |succ i=>exact g3 i r y (by simpa using e1) (by simpa using e2)
    ·cases i with
     |zero=>simp at e1 e2;subst e1;subst e2;exact freezeL_length h1
     |succ i=>exact g4 i r r' (by simpa using e1) (by simpa using e2)
    ·rcases List.mem_cons.1 hr with rfl|hr
     ·exact f3
     ·exact g5 r hr
    ·rcases List.mem_cons.1 hr with rfl|hr
     ·exact f4
     ·exact g6 r hr
    ·rcases List.mem_cons.1 hr with rfl|hr
     ·exact f5
     ·exact g7 r hr
   ·cases hf
  ·cases hf
theorem freezeV_ok {wl:Nat}{st st':Store}{a a':AV}{v:Value}(hI:Inv w G st)(hX:∀b,cntS b G.ls st<=1)(h:RepV w G a v)(hf:freezeV wl a st=some (a',st')) :
  ∃G',Frz w G st G' st'/\RepV w G' a' v/\a'.noOwn=true:=by
 unfold freezeV at hf
 split at hf
 ·rename_i id ver
  split at hf
  ·rename_i v0 sz rows hst
   split at hf
   ·rename_i hc
    simp only[Bool.and_eq_true,decide_eq_true_eq,Bool.not_eq_true']at hc
    obtain⟨⟨rfl,hne⟩,_⟩:=hc
    split at hf
    ·rename_i rows' st1 hfl
     cases hf
     obtain⟨loc,hl,hmp,hlv,hra⟩:=hI.loc hst
     cases h with
     |mu _ _ _ loc' hp hl' hv' he=>
     rw[hl]at hl';cases hl'
     have hval:=he (by omega)
     subst hval
     rcases hra.lies with⟨_,hnil,_⟩|⟨b,off,c,e',hla,hcap,hheap,hsz,hlen,htip,hcells⟩
     ·subst hnil;simp at hne
     obtain⟨f1,f2⟩:=frz_empty hI hst hl hmp hlv
     have hblk:loc.blk=some b:=by unfold Loc.blk;rw[if_neg (by omega),hla];rfl
     have hX1:∀b',cntLL b' rows loc.vals+cntS b' (G.at id (emptied sz v0)).ls (st.set id (.rows (v0+1) sz []))<=1:=fun b'=>by
      have h1:=f2 b'
      have h2:=hX b'
      simp only[cntO]at h1
      omega
     obtain⟨G2,g1,g2,g3,g4,g5,g6,g7⟩:=freezeLL_ok f1.inv hX1 hra.vlen.symm (fun i r y e1 e2=>(hra.reps i r y e1 e2).mono f1.stp fun b _=>⟨rfl,rfl⟩) hfl
     have h0:cntS b (G.at id (emptied sz v0)).ls (st.set id (.rows (v0+1) sz []))=0:=by
      have h1:=f2 b
      have h2:=hX b
      simp only[cntO,hblk,if_true]at h1
      omega
     have ht2:G2.tip b=some 0:=(g1.far b h0).trans htip
     obtain⟨k1,k2⟩:=frz_shut g1.inv ht2 (by have:=g1.cnt b;omega)
     refine⟨G2.shut b,⟨(f1.stp.trans g1.stp).trans k1,k2,fun b'=>Nat.le_trans (g1.cnt b') (f1.cnt b'),fun b' hb'=>?_⟩,?_,by simp[AV.noOwn]⟩
     ·have hbb:b'≠b:=by
       intro e;subst e
       have h1:=f2 b'
       simp only[cntO,hblk,if_true]at h1
       omega
      simp only[Ghost.shut]
      rw[if_neg hbb]
      exact g1.far b' (by have:=f1.cnt b';omega)
     ·rw[hla,hra.len,<-g2]
      refine rep_shut (vals:=loc.vals) (fits_iff.2 fun r hr=>?_) g7 g5 g6 (by rw[hra.vlen,g2]) (fun i r xs h1 h2=>(g3 i r xs h1 h2).mono k1 fun b' hb'=>by rw[cntL_noOwn b' _ _ (g5 r (mem_get h1))]at hb';omega) (by rw[g2];exact hlen) (Array.getElem?_eq_some_iff.1 hheap).1 (by simp[Ghost.shut]) hcells
      obtain⟨i,hi,rfl⟩:=List.mem_iff_getElem.1 hr
      have hi':i<rows.length:=by rw[<-g2];exact hi
      rw[g4 i rows[i] rows'[i] (List.getElem?_eq_getElem hi') (List.getElem?_eq_getElem hi)]
      exact fits_iff.1 hra.fit _ (List.getElem_mem hi')
    ·cases hf
   ·cases hf
  ·cases hf
 ·cases hf
  cases h
  exact⟨G,Frz.refl hI,.nilSl,rfl⟩
 ·cases hf
end Ax
namespace Ax
open Go
variable {P:Program}{w w':World}{G G':Ghost}{β β':List BxG}{ρ:Operand->Value}{o:Oper}
theorem flatten_drop {sz:Nat}{α:Type}:∀(n:Nat)(rows:List (List α)),(∀r∈rows,r.length=sz)->rows.flatten.drop (n*sz)=(rows.drop n).flatten
 |0,rows,_=>by simp
 |n+1,[],_=>by simp
 |n+1,r::rows,h=>by
  have h0:r.length=sz:=h r (by simp)
  have ih:=flatten_drop n rows fun x hx=>h x (by simp[hx])
  rw[List.drop_succ_cons,List.flatten_cons,<-ih,Nat.succ_mul,Nat.add_comm,<-List.drop_drop,<-h0,List.drop_left]
theorem q_copy {t tx ty e:TypeId}{sz:Nat}(ht:P.underlying t=some (.slice e))(hsz:cellsIs P e sz=true)(hk:(∃e',P.underlying tx=some (.slice e'))\/P.underlying tx=some .string)
  {st:Store} {bx:Boxes} (hI:Inv w G st) (hB:RepB w G β bx) {cO:Nat->Nat} (hX:∀b,cO b+cntB b β bx+cntS b G.ls st<=1)
  {s x:AV} {vs vx:Value} (hs:RepV w G s vs) (hx:RepV w G x vx) {wl lim:Nat} {st':Store} {bx':Boxes} {r:Ent} (ha:act0 wl lim (.copy sz) [.val s,.val x] st bx=some (r,st',bx')) :
  ∃v w' G',(Builtin.copy_ #[t,tx] ty #[vs,vx]).run P w=.ok v w'/\Act1 w G β st bx cO w' G' β st' bx' r v:=by
 obtain⟨i,hi,hsz⟩:∃i,P.info? e=some i/\i.size=sz:=by
  unfold cellsIs at hsz
  split at hsz
  ·rename_i i hi;exact⟨i,hi,by simpa using hsz⟩
  ·cases hsz
 unfold act0 at ha
 simp only at ha
 split at ha
 ·rename_i id ver x2 heq
  simp only[List.cons.injEq,Ent.val.injEq,and_true]at heq
  obtain⟨rfl,rfl⟩:=heq
  split at ha
  ·rename_i v sz' old new hst hnew
   split at ha
   ·rename_i hc
    simp only[Bool.and_eq_true,decide_eq_true_eq]at hc
    obtain⟨⟨⟨⟨⟨rfl,rfl⟩,hfit⟩,hle⟩,_⟩,_⟩:=hc
    cases ha
    obtain⟨news,hrep,hsrc,hcel,hno,_⟩:=brings_ok hI hx hnew hfit hk
    have hn0:∀b xs,cntL b new.flatten xs=0:=fun b xs=>cntL_noOwn b _ _ ((noOwnL_iff _).2 fun x hx=>by
     obtain⟨r,hr,hx⟩:=List.mem_flatten.1 hx
     exact(noOwnL_iff r).1 (hno r hr) x hx)
    obtain⟨loc,hl,hmp,hlv,hra⟩:=hI.loc hst
    cases hs with
    |mu _ _ _ loc' hp hl' hv' he=>
    rw[hl]at hl';cases hl'
    have hval:=he (by omega)
    subst hval
    obtain⟨hfl,hfc,hfv,hfcell⟩:=hra.flat
    have hfo:=fits_iff.1 hra.fit
    have hol:loc.vals.flatten.length=old.length*sz':=by rw[<-hfl.1];exact flatten_length old hfo
    have hnl:news.length=new.length*sz':=hsrc.newsLen
    have hmin:Nat.min new.length loc.len=new.length:=by rw[hra.len];exact Nat.min_eq_left hle
    by_cases hne:new=[]
    ·subst hne
     have h0:news=[]:=List.eq_nil_of_length_eq_zero (by simpa using hnl)
     subst h0
     refine⟨.int .i64 0,w,G,?_,?_⟩
     ·have h1:=hsrc.len
      have h2:=hsrc.cells
      simp only[List.length_nil]at h1 h2 hmin
      cases hla:loc.a<;>simp[Builtin.copy_,run_underlying ht,Go.sizeOf,typeInfo,hi,hsz,h1,h2,hmin,storeCells,goInt]
     ·have:st.set id (.rows v sz' ([]++old.drop 0))=st:=set_self st id _ (by simpa using hst)
      simp only[List.length_nil]at this ⊢
      rw[this]
      exact Act1.quiet hI hB (.int _ _) fun b=>by simp[cntE,cnt]
    ·have hn:0<new.length:=List.length_pos_iff.2 hne
     rcases hra.lies with⟨h0,h1,_⟩|⟨b,off,c,e',hla,hcap,hheap,hszc,hlen,htip,hcells⟩
     ·rw[h1]at hle;simp at hle;exact absurd hle hne
     have hle2:off+news.length<=c.size:=by
      rw[hnl]
      have:new.length*sz'<=loc.cap*sz':=Nat.mul_le_mul_right _ (by omega)
      omega
     have hst1:=run_storeCells_paste (P:=P) b off e' news c w hheap hle2 hsrc.one
     have e1:(Builtin.copy_ #[t,tx] ty #[.slice loc.a loc.len loc.cap,vx]).run P w=.ok (.int .i64 new.length) (w.setRow b (paste c.toList off news).toArray):=by
      have h1:=hsrc.len
      have h2:=hsrc.cells
      simp[Builtin.copy_,run_underlying ht,Go.sizeOf,typeInfo,hi,hsz,h1,h2,hmin,hla,hst1,goInt]
     have hall:=fits_append hfit (b:=old.drop new.length) (by rw[fits_iff];exact fun r hr=>hfo r (List.mem_of_mem_drop hr))
     have hlen2:(new++old.drop new.length).length=old.length:=by simp;omega
     have hflat:(new++old.drop new.length).flatten=new.flatten++old.flatten.drop (new.length*sz'):=by rw[List.flatten_append,flatten_drop _ _ hfo]
     let loc2:Loc:=⟨some ⟨b,off,none⟩,loc.cap,(new++old.drop new.length).length,sz',v,false,chop sz' (new++old.drop new.length).length (news++loc.vals.flatten.drop (new.length*sz'))⟩
     have hids:∀(i:Nat) l,G.ls[i]?=some l->∃l'',(G.at id loc2).ls[i]?=some l''/\l.ver<=l''.ver/\(l.ver=l''.ver\/l.mp=true->l''.hd=l.hd):=
      ids_at hl (by simp only[loc2];omega) fun _=>by simp only[loc2,Loc.hd,hla,hlen2,hra.len,hra.size,hmp]
     have hgl:(G.at id loc2).ls[id]?=some loc2:=by
      simp only[Ghost.at];rw[List.getElem?_set,if_pos rfl,if_pos (List.getElem?_eq_some_iff.1 hl).1]
     have hW:Wr w G (w.setRow b (paste c.toList off news).toArray) ⟨(G.at id loc2).ls,fun b'=>if b'=b then some 0 else G.tip b'⟩ b:=
      wr_row hheap hle2 htip (Nat.zero_le _) (Nat.le_refl _) hids
     have hblk:loc.blk=some b:=by unfold Loc.blk;rw[if_neg (by omega),hla];rfl
     refine⟨_,_,⟨(G.at id loc2).ls,fun b'=>if b'=b then some 0 else G.tip b'⟩,e1,?_⟩
     refine act_set hI hB hX hl hst hW.stp rfl ⟨rfl,rfl,rowsAt_of_flat (b:=b) (off:=off) (c:=(paste c.toList off news).toArray) (e:=e') (xs:=news++loc.vals.flatten.drop (new.length*sz')) hall (mem_app hcel fun r hr=>hra.cel r (List.mem_of_mem_drop hr)) ?_ rfl rfl rfl rfl hcap (setRow_heap w b c _ e' (0,0) hheap) (by rw[List.size_toArray,paste_length];simpa using hszc) (by rw[hlen2];exact hlen) (by simp) fun k x hk=>?_⟩
      (hW.tips hI) (fun b' _ hb'=>hW.untouched fun e=>hb' (by rw[hblk,e])) (by simp) rfl rfl (.int _ _) fun b'=>?_
     ·rw[hflat]
      refine(hrep.mono hW.stp fun b' hb'=>by rw[hn0]at hb';omega).append ((hfl.drop _).mono hW.stp fun b' hb'=>hW.untouched fun e=>?_)
      subst e
      have h3:=cntL_drop b' (new.length*sz') _ _ hfl.1
      rw[hfc]at h3
      have h1:=hX b'
      have h2:=cntS_get b' G.ls st id loc _ hl hst
      simp only[cntO,hblk,if_true]at h2
      omega
     ·rw[setRow_cell hheap hle2]
      by_cases hk':k<news.length
      ·rw[List.getElem?_append_left hk']at hk
       rw[if_pos (by omega),show off+k-off=k by omega]
       exact hk
      ·rw[List.getElem?_append_right (by omega),List.getElem?_drop]at hk
       rw[if_neg (by omega)]
       have:=hfcell b off hcells _ x hk
       rw[show new.length*sz'+(k-news.length)=k by omega]at this
       exact this
     ·have hblk':loc2.blk=loc.blk:=by
       rw[hblk];simp only[loc2];unfold Loc.blk;rw[if_neg (show ¬loc.cap=0 by omega)];rfl
      simp only[cntE,cnt,cntO]
      rw[hblk']
      simp only[loc2]
      rw[cntLL_chop b' (new++old.drop new.length) _ (fits_iff.1 hall) (by rw[hflat,List.length_append,List.length_append,hrep.1,List.length_drop,List.length_drop,hfl.1]),hflat,cntL_append b' _ _ _ _ hrep.1,hn0]
      have:=cntL_drop b' (new.length*sz') _ _ hfl.1
      rw[hfc]at this
      omega
   ·cases ha
  ·cases ha
 ·cases ha
theorem bytesOf_rows:∀{rows:List (List AV)}{l:List UInt8},bytesOf rows=some l->rows=bytesRows l
 |[],l,h=>by simp[bytesOf]at h;subst h;rfl
 |r::rows,l,h=>by
  unfold bytesOf at h
  split at h
  ·rename_i heq;cases heq
  ·rename_i n r' heq
   simp only[List.cons.injEq]at heq
   obtain⟨rfl,rfl⟩:=heq
   split at h
   ·rename_i hn
    split at h
    ·rename_i l' hl'
     cases h
     have:=bytesOf_rows hl'
     subst this
     have h2:(((UInt8.ofNat n.toNat).toNat:Nat):Int)=n:=by
      rw[UInt8.toNat_ofNat']
      omega
     show _=[AV.int .u8 (((UInt8.ofNat n.toNat).toNat:Nat):Int)]::bytesRows l'
     rw[h2]
    ·cases h
   ·cases h
  ·cases h
theorem foldl_push (l:List UInt8):∀acc:ByteArray,List.foldl (fun b a=>b.push a) acc l=⟨(acc.data.toList++l).toArray⟩:=by
 induction l with
 |nil=>intro acc;simp
 |cons b l ih=>
  intro acc
  rw[List.foldl_cons,ih]
  simp
theorem q_toStr {s d e:TypeId}{x:Operand}(ho:o.op=.convert s d x)(hs:P.underlying s=some (.slice e))(he:P.underlying e=some (.int .u8))(hd:P.underlying d=some .string){st:Store}(hI:Inv w G st)
  {a:AV} (ha:RepV w G a (ρ x)) {rows:List (List AV)} (hr:rowsOf st a=some rows) {l:List UInt8} (hl:bytesOf rows=some l):∃u,(execOp ρ o).run P w=.ok (.value u) w/\RepV w G (.str l) u:=by
 have hrows:=bytesOf_rows hl
 subst hrows
 have hfit:fits 1 (bytesRows l)=true:=by simp[fits,bytesRows]
 have hb:bringsOf st a=some (bytesRows l):=by
  unfold bringsOf
  split
  ·simp[rowsOf]at hr
  ·rw[hr]
   simp only[Option.some.injEq,bytesRows,List.map_map]
   exact List.map_congr_left fun _ _=>rfl
  ·exact hr
 obtain⟨xs,hrep,hsrc,_,_,_⟩:=brings_ok hI ha hb hfit (P:=P) (tx:=s) (.inl ⟨e,hs⟩)
 have hxs:xs=l.map fun b=>Value.int .u8 b.toNat:=by
  have hfl:(bytesRows l).flatten=l.map fun b=>AV.int .u8 b.toNat:=str_cells l
  rw[hfl]at hrep
  apply List.ext_getElem?
  intro i
  rw[List.getElem?_map]
  cases hi:l[i]? with
  |none=>
   have:xs.length<=i:=by rw[<-hrep.1];simpa using hi
   simpa using this
  |some b=>
   have h1:(l.map fun b=>AV.int .u8 b.toNat)[i]?=some (.int .u8 b.toNat):=by rw[List.getElem?_map,hi];rfl
   have h2:i<xs.length:=by rw[<-hrep.1];exact(List.getElem?_eq_some_iff.1 h1).1
   have h3:=hrep.2 i _ _ h1 (List.getElem?_eq_getElem h2)
   rw[List.getElem?_eq_getElem h2,h3.int_inv]
   rfl
 subst hxs
 have hlen:(bytesRows l).length=l.length:=by simp[bytesRows]
 rw[hlen]at hsrc
 have hsl:(∃n c,ρ x=.slice none n c/\l=[])\/∃ad c,ρ x=.slice (some ad) l.length c:=by
  have h1:=hsrc.len w
  have h2:=hsrc.cells
  generalize ρ x=v at *
  cases a with
  |nilSl=>cases ha;exact .inl ⟨_,_,rfl,by simp[rowsOf,bytesRows]at hr;exact hr⟩
  |emp=>cases ha;exact .inr ⟨_,_,by simp[rowsOf,bytesRows]at hr;subst hr;rfl⟩
  |lst s' r'=>cases ha;simp[rowsOf]at hr;subst hr;rw[hlen];exact .inr ⟨_,_,rfl⟩
  |own s' r'=>cases ha;simp[rowsOf]at hr;subst hr;rw[hlen];exact .inr ⟨_,_,rfl⟩
  |mu id ver=>
   cases ha with
   |mu _ _ _ loc hp hl2 hv he2=>
    obtain⟨p,n,c,rfl⟩:=hp
    simp[Builtin.lenOf]at h1
    subst h1
    cases p with
    |some p=>exact .inr ⟨_,_,rfl⟩
    |none=>
     simp[Builtin.firstCells]at h2
     exact .inl ⟨_,_,rfl,h2⟩
  |_=>simp[rowsOf]at hr
 refine⟨.string ⟨l.toArray⟩,?_,.str _ _ (by simp)⟩
 rcases hsl with⟨n,c,h1,rfl⟩|⟨ad,c,h1⟩
 ·simp[execOp,ho,convert,run_underlying hs,run_underlying hd,run_underlying he,h1,Conv.bytesToString]
  rfl
 ·have h2:=hsrc.cells
  rw[h1]at h2
  simp only[Builtin.firstCells,Nat.mul_one]at h2
  simp only[execOp,ho,convert,h1]
  simp[run_underlying hs,run_underlying hd,run_underlying he,Conv.bytesToString,h2,foldl_push]
end Ax
namespace Ax
open Go
variable {P:Program}{w w':World}{G G':Ghost}{β β':List BxG}{ρ:Operand->Value}{o:Oper}
def Done (P:Program)(ρ:Operand->Value)(o:Oper)(w:World)(G:Ghost)(β:List BxG)(st:Store)(bx:Boxes)(cO:Nat->Nat)(nb:Option Nat)(r:Ent)(st':Store)(bx':Boxes):Prop:=
 ∃n v w' G' β',(execOp ρ o).run P w=.ok n w'/\(n=.value v\/n=.skip/\v=undef)/\Act1 w G β st bx cO w' G' β' st' bx' r v/\BxStep nb β β'
theorem Done.quiet {st:Store}{bx:Boxes}{cO:Nat->Nat}{nb:Option Nat}{r:Ent}(hI:Inv w G st)(hB:RepB w G β bx){u:Value}(h:(execOp ρ o).run P w=.ok (.value u) w)(hr:RepE w G β r u)(hc:∀b,cntE b r u<=cO b):Done P ρ o w G β st bx cO nb r st bx:=
 ⟨_,u,w,G,β,h,.inl rfl,Act1.quiet hI hB hr hc,BxStep.refl _ _⟩
theorem Done.noOwn {st:Store}{bx:Boxes}{cO:Nat->Nat}{nb:Option Nat}{a:AV}(hI:Inv w G st)(hB:RepB w G β bx){u:Value}(h:(execOp ρ o).run P w=.ok (.value u) w)(hr:RepV w G a u)(hn:a.noOwn=true):Done P ρ o w G β st bx cO nb (.val a) st bx:=
 Done.quiet hI hB h hr fun b=>by simp only[cntE,cnt_noOwn b a u hn];omega
theorem RepEs.repC {vals:List Ent}{xs:List Value}{vs:List AV}(h:RepEs w G β vals xs)(hv:valsOf vals=some vs):RepC w G vs xs/\∀b,cntEs b vals xs=cntL b vs xs:=by
 obtain⟨e1,e2,e3⟩:=h.vals hv
 exact⟨⟨e2,e3⟩,fun b=>by rw[e1,cntEs_vals]⟩
theorem allCells_all {rows:List (List AV)}(h:rows.all AV.allCells=true):∀r∈rows,AV.allCells r=true:=by simpa using h
theorem allPure_all {rows:List (List AV)}(h:rows.all AV.allPure=true):∀r∈rows,AV.allPure r=true:=by simpa using h
theorem mem_set_fill {sz:Nat}{p:AV->Prop}:∀(qs:List Nat)(vs:List AV)(rows rows':List (List AV)),(∀r∈rows,∀c∈r,p c)->(∀v∈vs,∀c∈v.cells,p c)->fillRows sz rows qs vs=some rows'->∀r∈rows',∀c∈r,p c
 |[],[],rows,rows',hr,_,h=>by simp[fillRows]at h;subst h;exact hr
 |[],_::_,_,_,_,_,h=>by simp[fillRows]at h
 |_::_,[],_,_,_,_,h=>by simp[fillRows]at h
 |i::qs,v::vs,rows,rows',hr,hv,h=>by
  simp only[fillRows]at h
  split at h
  ·refine mem_set_fill qs vs _ rows' (fun r hm=>?_) (fun u hu=>hv u (by simp[hu])) h
   rcases List.mem_or_eq_of_mem_set hm with h1|h1
   ·exact hr r h1
   ·rw[h1];exact hv v (by simp)
  ·cases h
theorem noOwn_cells {v:AV}(h:v.noOwn=true):∀c∈v.cells,c.noOwn=true:=by
 cases v<;>simp_all [AV.cells,AV.noOwn]
 exact(noOwnL_iff _).1 h
theorem viewL_noOwn (vs:List AV):∀v∈AV.viewL vs,v.noOwn=true:=(noOwnL_iff _).1 (noOwn_viewL vs)
theorem boundOf_ok {x:Option Operand}{d a:Int}{vals rest:List Ent}{xs:List Value}(h:boundOf x.isSome d vals=some (a,rest))(hR:RepEs w G β vals (x.toList.map ρ++xs)):OptB ρ x d a/\RepEs w G β rest xs:=by
 unfold boundOf at h
 cases x with
 |none=>simp at h;obtain⟨rfl,rfl⟩:=h;exact⟨.inl ⟨rfl,rfl⟩,by simpa using hR⟩
 |some y=>
  simp only[Option.isSome_some,if_true]at h
  split at h
  ·rename_i n r
   cases h
   simp only[Option.toList_some,List.map_cons,List.map_nil,List.cons_append,List.nil_append,RepEs,RepE]at hR
   exact⟨.inr ⟨y,rfl,hR.1.int_inv⟩,hR.2⟩
  ·cases h
theorem app_types {c:Call}{t u:TypeId}(h2:c.argTypes.size=2)(h0:c.argTypes[0]?=some t)(h1:c.argTypes[1]?=some u):c.argTypes = #[t,u]:=by
 apply Array.ext_getElem?
 intro i
 match i with
 |0=>simpa using h0
 |1=>simpa using h1
 |i+2=>simp;omega
section
variable {S:Nat->Option SFunc}{so:SOper}{vals:List Ent}{wl lim:Nat}{st st':Store}{bx bx':Boxes}{cO:Nat->Nat}{r:Ent}
theorem d_slice {t:TypeId}{x:Operand}{lo hi mx:Option Operand}{isS:Bool}{sz:Nat}(ho:o.op=.slice t x lo hi mx)(hmh:mx.isSome=true->hi.isSome=true)
  (hu:match P.underlying t with|some (.slice e)=>(!isS&&cellsIs P e sz)=true|some .string=>(isS && !mx.isSome)=true|_=>False) (hI:Inv w G st) (hB:RepB w G β bx)
  (hR:RepEs w G β vals ((sliceArgs x lo hi mx).map ρ)) (hcO:∀b,cntEs b vals ((sliceArgs x lo hi mx).map ρ)<=cO b) (ha:act0 wl lim (.slice isS lo.isSome hi.isSome mx.isSome sz) vals st bx=some (r,st',bx')) :
  Done P ρ o w G β st bx cO none r st' bx':=by
 simp only[sliceArgs,List.map_cons,List.map_append]at hR
 unfold act0 at ha
 simp only at ha
 split at ha
 ·rename_i a l
  obtain⟨hRx,hRl⟩:=hR
  simp only[RepE]at hRx
  split at ha
  ·cases ha
  ·rename_i n hn
   split at ha
   ·cases ha
   ·rename_i lov l1 hlo
    obtain⟨hlo1,hR1⟩:=boundOf_ok hlo (xs:=hi.toList.map ρ++mx.toList.map ρ) (by simpa [List.append_assoc] using hRl)
    split at ha
    ·cases ha
    ·rename_i hiv l2 hhi
     obtain⟨hhi1,hR2⟩:=boundOf_ok hhi hR1
     split at ha
     ·rename_i hmx
      have hmx0:mx=none:=by cases mx<;>simp_all
      subst hmx0
      split at ha
      ·rename_i v hv
       cases ha
       unfold sliceV at hv
       split at hv
       ·rename_i s
        split at hv
        ·rename_i hc
         simp only[Bool.and_eq_true,decide_eq_true_eq]at hc
         obtain⟨⟨⟨_,h0⟩,h1⟩,h2⟩:=hc
         cases hv
         simp only[if_true,lenV,Option.some.injEq]at hn
         subst hn
         have hus:P.underlying t=some .string:=by
          split at hu
          ·simp at hu
          ·assumption
          ·exact hu.elim
         obtain⟨u,e1,e2⟩:=q_sliceStr ho hus hRx hlo1 hhi1 h0 h1 h2
         exact Done.noOwn hI hB e1 e2 rfl
        ·cases hv
       ·simp only[Bool.and_true]at hv
        split at hv
        ·rename_i hc
         simp only[Bool.and_eq_true,decide_eq_true_eq]at hc
         obtain⟨rfl,rfl⟩:=hc
         cases hv
         simp only[lenV,rowsOf]at hn
         cases hn
         split at hu
         ·rename_i e hue
          simp only[Bool.and_eq_true]at hu
          exact Done.noOwn hI hB (q_sliceNil ho hue hu.2 hRx hlo1 hhi1 (.inl rfl)) .nilSl rfl
         ·simp at hu
         ·exact hu.elim
        ·cases hv
       ·simp only[Bool.and_true]at hv
        split at hv
        ·rename_i hc
         simp only[Bool.and_eq_true,decide_eq_true_eq]at hc
         obtain⟨rfl,rfl⟩:=hc
         cases hv
         simp only[lenV,rowsOf]at hn
         cases hn
         split at hu
         ·rename_i e hue
          simp only[Bool.and_eq_true]at hu
          obtain⟨u,e1,e2⟩:=q_sliceEmp0 ho hue hu.2 hRx hlo1 hhi1 (.inl rfl)
          exact Done.noOwn hI hB e1 e2 rfl
         ·simp at hu
         ·exact hu.elim
        ·cases hv
       ·rename_i s rows
        simp only at hv
        split at hv
        ·rename_i hc
         simp only[Bool.and_eq_true,decide_eq_true_eq]at hc
         obtain⟨⟨⟨rfl,h0⟩,h1⟩,h2⟩:=hc
         cases hv
         simp only[lenV,rowsOf]at hn
         cases hn
         split at hu
         ·rename_i e hue
          simp only[Bool.and_eq_true]at hu
          obtain⟨u,e1,e2⟩:=q_sliceLst ho hue hu.2 hRx hlo1 hhi1 h0 h1 h2
          exact Done.noOwn hI hB e1 e2 rfl
         ·simp at hu
         ·exact hu.elim
        ·cases hv
       ·rename_i s rows
        simp only at hv
        split at hv
        ·rename_i hc
         simp only[Bool.and_eq_true,decide_eq_true_eq]at hc
         obtain⟨⟨⟨rfl,h0⟩,h1⟩,h2⟩:=hc
         cases hv
         simp only[lenV,rowsOf]at hn
         cases hn
         split at hu
         ·rename_i e hue
          simp only[Bool.and_eq_true]at hu
          obtain⟨u,e1,e2⟩:=q_sliceLst ho hue hu.2 hRx.view hlo1 hhi1 h0 h1 h2
          exact Done.noOwn hI hB e1 e2 rfl
         ·simp at hu
         ·exact hu.elim
        ·cases hv
       ·cases hv
      ·cases ha
     ·rename_i m hmx
      obtain⟨z,rfl⟩:∃z,mx=some z:=by cases mx<;>simp_all
      simp only[Option.toList_some,List.map_cons,List.map_nil,RepEs,RepE]at hR2
      have hz:=hR2.1.int_inv
      split at ha
      ·rename_i v hv
       cases ha
       unfold sliceV at hv
       split at hv
       ·simp at hv
       ·simp only at hv
        split at hv
        ·rename_i hc
         simp only[Bool.and_eq_true,decide_eq_true_eq,beq_iff_eq]at hc
         obtain⟨⟨rfl,rfl⟩,rfl⟩:=hc
         cases hv
         simp only[lenV,rowsOf]at hn
         cases hn
         split at hu
         ·rename_i e hue
          simp only[Bool.and_eq_true]at hu
          exact Done.noOwn hI hB (q_sliceNil ho hue hu.2 hRx hlo1 hhi1 (.inr ⟨z,rfl,hmh rfl,hz⟩)) .nilSl rfl
         ·simp at hu
         ·exact hu.elim
        ·cases hv
       ·simp only at hv
        split at hv
        ·rename_i hc
         simp only[Bool.and_eq_true,decide_eq_true_eq,beq_iff_eq]at hc
         obtain⟨⟨rfl,rfl⟩,rfl⟩:=hc
         cases hv
         simp only[lenV,rowsOf]at hn
         cases hn
         split at hu
         ·rename_i e hue
          simp only[Bool.and_eq_true]at hu
          obtain⟨u,e1,e2⟩:=q_sliceEmp0 ho hue hu.2 hRx hlo1 hhi1 (.inr ⟨z,rfl,hmh rfl,hz⟩)
          exact Done.noOwn hI hB e1 e2 rfl
         ·simp at hu
         ·exact hu.elim
        ·cases hv
       ·rename_i s rows
        simp only at hv
        split at hv
        ·rename_i hc
         simp only[Bool.and_eq_true,decide_eq_true_eq]at hc
         obtain⟨⟨rfl,rfl⟩,rfl⟩:=hc
         cases hv
         simp only[lenV,rowsOf]at hn
         cases hn
         split at hu
         ·rename_i e hue
          simp only[Bool.and_eq_true]at hu
          obtain⟨u,e1,e2⟩:=q_sliceEmp ho hue hu.2 hRx hlo1 hhi1 (hmh rfl) hz
          exact Done.noOwn hI hB e1 e2 rfl
         ·simp at hu
         ·exact hu.elim
        ·cases hv
       ·rename_i s rows
        simp only at hv
        split at hv
        ·rename_i hc
         simp only[Bool.and_eq_true,decide_eq_true_eq]at hc
         obtain⟨⟨rfl,rfl⟩,rfl⟩:=hc
         cases hv
         simp only[lenV,rowsOf]at hn
         cases hn
         split at hu
         ·rename_i e hue
          simp only[Bool.and_eq_true]at hu
          obtain⟨u,e1,e2⟩:=q_sliceEmp ho hue hu.2 hRx.view hlo1 hhi1 (hmh rfl) hz
          exact Done.noOwn hI hB e1 e2 rfl
         ·simp at hu
         ·exact hu.elim
        ·cases hv
       ·cases hv
      ·cases ha
     ·cases ha
 ·cases ha
end
end Ax
namespace Ax
open Go
variable {P:Program}{w w':World}{G G':Ghost}{β β':List BxG}{ρ:Operand->Value}{o:Oper}
variable {S:Nat->Option SFunc}{so:SOper}{vals:List Ent}{wl lim:Nat}{st st':Store}{bx bx':Boxes}{cO:Nat->Nat}{r:Ent}
theorem Act1.le {cO cO':Nat->Nat}{v:Value}(h:Act1 w G β st bx cO w' G' β' st' bx' r v)(hc:∀b,cO b<=cO' b):Act1 w G β st bx cO' w' G' β' st' bx' r v:=
 { h with cnt:=fun b=>by have h1:=h.cnt b;have h2:=hc b;omega,far:=fun b hb=>h.far b (by have:=hc b;omega) }
theorem q_lit0 {t e:TypeId}{parts:Array (Nat×Operand)}(ho:o.op=.buildSlice t 0 parts)(hu:P.underlying t=some (.slice e)){sz:Nat}(hsz:cellsIs P e sz=true)(hp:parts = #[]) :
  (execOp ρ o).run P w=.ok (.value (.slice (some ⟨w.heap.size,0,none⟩) 0 0)) (w.alloc (.cells #[] e)):=by
 obtain⟨i,hi,his,_⟩:=info_cells hsz
 subst hp
 have h0:(Array.range 0).map (fun _:Nat=>(default:Value)) = #[]:=by apply Array.ext';simp
 simp[execOp,ho,Instr.buildSlice,run_underlying hu,Go.sizeOf,typeInfo,hi,Instr.fill,newRow]
 rw[h0]
theorem d_lit {t:TypeId}{n n' sz:Nat}{parts:Array (Nat×Operand)}{zero:List AV}{qs:List Nat}{mu:Bool}(ho:o.op=.buildSlice t n parts)(hn':n=n')
  (hu:match P.underlying t with
   |some (.slice e)=>(cellsIs P e sz&&decide (n*sz<=16777216)&&zeroIs P e zero&&decide (0<sz)&&(zero.length==sz)&&parts.toList.map (·.1)==qs)=true
   |_=>False) (hI:Inv w G st) (hB:RepB w G β bx)
  (hR:RepEs w G β vals ((parts.toList.map (·.2)).map ρ)) (hcO:∀b,cntEs b vals ((parts.toList.map (·.2)).map ρ)<=cO b) (ha:act0 wl lim (if mu then .litM sz n' zero qs else .lit sz n' zero qs) vals st bx=some (r,st',bx')) :
  Done P ρ o w G β st bx cO none r st' bx':=by
 subst hn'
 split at hu
 ·rename_i e hue
  simp only[Bool.and_eq_true,decide_eq_true_eq,beq_iff_eq]at hu
  obtain⟨⟨⟨⟨⟨hsz,hsmall⟩,hz⟩,hp0⟩,hzl⟩,hq⟩:=hu
  have hmap:(parts.toList.map (·.2)).map ρ=parts.toList.map fun p=>ρ p.2:=by simp
  rw[hmap]at hR hcO
  cases mu with
  |true=>
   simp only[if_true]at ha
   unfold act0 at ha
   simp only at ha
   split at ha
   ·rename_i vs hvs
    split at ha
    ·rename_i rows hfill
     split at ha
     ·rename_i hc
      simp only[Bool.and_eq_true,decide_eq_true_eq]at hc
      cases ha
      obtain⟨hv,hcv⟩:=hR.repC hvs
      obtain⟨cells,e1,e2,e3,e4,e5,e6⟩:=q_lit (w:=w) ho hue hsz hsmall hz hp0 hzl hq hfill hc.2 hv
      obtain⟨G',hA,_⟩:=act_rows (sz:=sz) (cap:=n) (rows:=rows) (c:=cells) (e:=e) (xs:=cells.toList) (w':=w.alloc (.cells cells e)) (cO:=cO) hI hB rfl rfl rfl e4 (allCells_all hc.1) e2 hc.2 (by omega) (by omega) (by simp)
       (fun b=>by have h1:=e3 b;have h2:=hcO b;rw[hcv]at h2;omega)
      exact⟨_,_,_,G',β,e1,.inl rfl,hA,BxStep.refl _ _⟩
     ·cases ha
    ·cases ha
   ·cases ha
  |false=>
   simp only[Bool.false_eq_true,if_false]at ha
   unfold act0 at ha
   simp only at ha
   split at ha
   ·rename_i vs hvs
    split at ha
    ·rename_i rows hfill
     split at ha
     ·rename_i hc
      simp only[Bool.and_eq_true]at hc
      cases ha
      obtain⟨hv,hcv⟩:=hR.repC hvs
      by_cases hn:n=0
      ·subst hn
       rw[if_pos rfl]
       have hparts:parts = #[]:=by
        cases hpl:parts.toList with
        |nil=>exact Array.toList_eq_nil_iff.1 hpl
        |cons p l=>
         rw[hpl]at hq
         subst hq
         simp only[List.map_cons,List.replicate_zero]at hfill
         cases hvl:AV.viewL vs with
         |nil=>rw[hvl]at hfill;simp[fillRows]at hfill
         |cons v l'=>rw[hvl]at hfill;simp[fillRows]at hfill
       exact⟨_,_,_,_,β,q_lit0 ho hue hsz hparts,.inl rfl,act_new (w':=w.alloc (.cells #[] e)) rfl rfl rfl none hI hB (.emp _) fun b=>by simp[cnt],BxStep.refl _ _⟩
      ·rw[if_neg hn]
       have hn0:0<n:=by omega
       obtain⟨cells,e1,e2,e3,e4,e5,e6⟩:=q_lit (w:=w) ho hue hsz hsmall hz hp0 hzl hq hfill hn0 hv.view
       have hno:∀r∈rows,AV.noOwnL r=true:=by
        obtain⟨_,_,_,_,_,hzn,_⟩:=zeroIs_ok hz w G
        have:=mem_set_fill (sz:=sz) (p:=fun c=>c.noOwn=true) qs (AV.viewL vs) _ rows (fun r hr c hc=>by
         rw[List.eq_of_mem_replicate hr]at hc;exact(hzn c hc).1) (fun v hv=>noOwn_cells (viewL_noOwn vs v hv)) hfill
        exact fun r hr=>(noOwnL_iff r).2 (this r hr)
       have hrv:=rep_own (G:=G.new w.heap.size (some (rows.length*sz)) []) (w:=w.alloc (.cells cells e)) (cap:=n) (off:=0) e4 (allCells_all hc.2) hno (allPure_all hc.1) (e2.push (w':=w.alloc (.cells cells e)) rfl _ _) (heap_new rfl) (by omega) (by omega) (by simp[Ghost.new]) (fun k x hk=>by rw[Nat.zero_add];simpa using hk)
       exact⟨_,_,_,_,β,e1,.inl rfl,act_new (w':=w.alloc (.cells cells e)) rfl rfl rfl (some (rows.length*sz)) hI hB hrv.view fun b=>by simp[cnt],BxStep.refl _ _⟩
     ·cases ha
    ·cases ha
   ·cases ha
 ·exact hu.elim
theorem two_of {α:Type}{l:List α}(h:l.length=2):∃x y,l=[x,y]:=by
 match l,h with
 |[x,y],_=>exact⟨x,y,rfl⟩
theorem d_indexAddr_lim {sz:Nat}{vals:List Ent}(wl lim:Nat):act0 wl lim (.indexAddr sz) vals st bx=act0 0 0 (.indexAddr sz) vals st bx:=rfl
theorem boolT {w:World}{G:Ghost}{b:Bool}{v:Value}(h:RepV w G (.bool b) v):v=.bool b:=h.bool_inv
theorem act_ok (hm:mOp S P o so=true)(hI:Inv w G st)(hB:RepB w G β bx)(hX:∀b,cO b+cntB b β bx+cntS b G.ls st<=1)
  (hA:∀xs,mSrcs xs so.args=true->RepEs w G β vals (xs.map ρ)/\∀b,cntEs b vals (xs.map ρ)<=cO b) (ha:act0 wl lim so.op vals st bx=some (r,st',bx')) :
  Done P ρ o w G β st bx cO so.op.newBox r st' bx':=by
 unfold mOp at hm
 rw[Bool.and_eq_true]at hm
 replace hm:=hm.2
 generalize hso:so.op=sop at hm ha
 split at hm
 ·
  rename_i x ho
  obtain⟨hR,hc⟩:=hA _ hm
  unfold act0 at ha
  simp only at ha
  split at ha
  ·cases ha
   exact Done.quiet hI hB (u:=ρ x) (by simp[execOp,ho]) hR.1 fun b=>by have:=hc b;simp only[List.map_cons,cntEs]at this;omega
  ·cases ha
 ·
  rename_i x ho
  obtain⟨hR,hc⟩:=hA _ hm
  unfold act0 at ha
  simp only at ha
  split at ha
  ·cases ha
   exact Done.quiet hI hB (u:=ρ x) (by simp[execOp,ho]) hR.1 fun b=>by have:=hc b;simp only[List.map_cons,cntEs]at this;omega
  ·cases ha
 ·
  rename_i c x y ho
  obtain⟨hR,hc⟩:=hA _ hm
  unfold act0 at ha
  simp only at ha
  split at ha
  ·rename_i b x' y'
   cases ha
   obtain⟨h1,h2,h3,_⟩:=hR
   have hb:=boolT h1
   refine Done.quiet hI hB (u:=if b then ρ x else ρ y) (by simp[execOp,ho,hb,asBool]) ?_ fun d=>?_
   ·cases b
    ·exact h3
    ·exact h2
   ·have:=hc d
    simp only[List.map_cons,cntEs]at this
    cases b
    ·simp;omega
    ·simp;omega
  ·cases ha
 ·
  rename_i op t x y yt op' ho
  simp only[Bool.and_eq_true,beq_iff_eq]at hm
  obtain⟨rfl,hm⟩:=hm
  obtain⟨hR,hc⟩:=hA _ hm
  unfold act0 at ha
  simp only at ha
  split at ha
  ·split at ha
   ·rename_i v hv
    cases ha
    obtain⟨u,e1,e2,e3⟩:=q_bin ho hv hR.1 hR.2.1
    exact Done.noOwn hI hB e1 e2 e3
   ·cases ha
  ·cases ha
 ·
  rename_i op t x y yt k neg ho
  simp only[Bool.and_eq_true,beq_iff_eq]at hm
  obtain⟨⟨rfl,hm⟩,ht⟩:=hm
  obtain⟨hR,hc⟩:=hA _ hm
  unfold act0 at ha
  simp only at ha
  split at ha
  ·split at ha
   ·rename_i b hb
    cases ha
    obtain⟨u,e1,e2⟩:=q_eqv ho ht hb hR.1 hR.2.1
    exact Done.noOwn hI hB e1 e2 rfl
   ·cases ha
  ·cases ha
 ·
  rename_i op t x y yt neg ho
  simp only[Bool.and_eq_true,beq_iff_eq]at hm
  obtain⟨⟨rfl,hm⟩,ht⟩:=hm
  obtain⟨hR,hc⟩:=hA _ hm
  unfold act0 at ha
  simp only at ha
  split at ha
  ·rename_i id ver
   split at ha
   ·rename_i v sz rows hst
    split at ha
    ·rename_i hcond
     cases ha
     exact Done.noOwn hI hB (q_muNil ho ht hI hst hcond hR.1 hR.2.1) (.bool _) rfl
    ·cases ha
   ·cases ha
  ·cases ha
 ·
  rename_i op t x op' ho
  simp only[Bool.and_eq_true,beq_iff_eq]at hm
  obtain⟨rfl,hm⟩:=hm
  obtain⟨hR,hc⟩:=hA _ hm
  unfold act0 at ha
  simp only at ha
  split at ha
  ·split at ha
   ·rename_i v hv
    cases ha
    obtain⟨u,e1,e2,e3⟩:=q_un ho hv hR.1
    exact Done.noOwn hI hB e1 e2 e3
   ·cases ha
  ·cases ha
 ·
  rename_i s d x k ho
  simp only[Bool.and_eq_true]at hm
  obtain⟨hm,ht⟩:=hm
  obtain⟨hR,hc⟩:=hA _ hm
  unfold act0 at ha
  simp only at ha
  split at ha
  ·cases ha
   split at ht
   ·rename_i k1 k2 h1 h2
    simp only[beq_iff_eq]at ht
    subst ht
    exact Done.noOwn hI hB (q_conv ho h1 h2 hR.1) (.int _ _) rfl
   ·cases ht
  ·cases ha
 ·
  rename_i x ho
  obtain⟨hR,hc⟩:=hA _ hm
  unfold act0 at ha
  simp only at ha
  split at ha
  ·cases ha
   obtain⟨g,b,h1,h2,h3⟩:=hR.1
   exact Done.quiet hI hB (q_nilCheck ho h3) ⟨g,b,h1,h2,h3⟩ fun d=>by simp[cntE]
  ·split at ha
   ·cases ha
    have hp:∃a,ρ x=.pointer (some a):=by
     have h:=hR.1
     simp only[RepE]at h
     cases h with|ptr _ _ _ _ _ _ hp=>exact hp
    obtain⟨a,hp⟩:=hp
    exact Done.quiet hI hB (q_nilCheck ho hp) hR.1 fun d=>by simp[cntE,cnt]
   ·cases ha
    have hp:∃a,ρ x=.pointer (some a):=by
     have h:=hR.1
     simp only[RepE]at h
     generalize ρ x=v at h
     cases h;exact⟨_,rfl⟩
    obtain⟨a,hp⟩:=hp
    exact Done.quiet hI hB (q_nilCheck ho hp) hR.1 fun d=>by simp[cntE,cnt]
   ·cases ha
  ·cases ha
 ·
  rename_i x i j ho
  simp only[Bool.and_eq_true,beq_iff_eq]at hm
  obtain⟨rfl,hm⟩:=hm
  obtain⟨hR,hc⟩:=hA _ hm
  unfold act0 at ha
  simp only at ha
  split at ha
  ·split at ha
   ·rename_i v hv
    cases ha
    obtain⟨u,e1,e2,e3⟩:=q_extract ho hv hR.1
    exact Done.quiet hI hB e1 e2 fun b=>by have h1:=hc b;have h2:=e3 b;simp only[List.map_cons,cntEs,cntE]at h1 ⊢;omega
   ·cases ha
  ·cases ha
 ·
  rename_i t x f off n agg ho
  simp only[Bool.and_eq_true]at hm
  obtain⟨hm,ht⟩:=hm
  obtain⟨hR,hc⟩:=hA _ hm
  split at ht
  ·rename_i fs hu
   split at ht
   ·rename_i fd hf
    simp only[Bool.and_eq_true,beq_iff_eq]at ht
    obtain⟨⟨h1,h2⟩,h3⟩:=ht
    unfold act0 at ha
    simp only at ha
    split at ha
    ·split at ha
     ·rename_i cs hcut
      split at ha
      ·rename_i v hv
       cases ha
       obtain⟨u,e1,e2,e3⟩:=q_field ho hu hf h1 h2 h3 hcut hv hR.1
       exact Done.quiet hI hB e1 e2 fun b=>by have h1:=hc b;have h2:=e3 b;simp only[List.map_cons,cntEs,cntE]at h1 ⊢;omega
      ·cases ha
     ·cases ha
    ·cases ha
   ·cases ht
  ·cases ht
 ·
  rename_i t parts zero qs ho
  simp only[Bool.and_eq_true]at hm
  obtain⟨⟨hm,hz⟩,ht⟩:=hm
  obtain⟨hR,hc⟩:=hA _ hm
  have hmap:(parts.toList.map (·.2)).map ρ=parts.toList.map fun p=>ρ p.2:=by simp
  rw[hmap]at hR hc
  split at ht
  ·rename_i fs hu
   split at ht
   ·rename_i is his
    unfold act0 at ha
    simp only at ha
    split at ha
    ·rename_i vs hvs
     split at ha
     ·rename_i cs hfill
      cases ha
      obtain⟨hv,hcv⟩:=hR.repC hvs
      obtain⟨u,e1,e2,e3⟩:=q_build ho hu his hz ht hfill hv
      exact Done.quiet hI hB e1 e2 fun b=>by have h1:=hc b;have h2:=e3 b;have h3:=hcv b;simp only[cntE];omega
     ·cases ha
    ·cases ha
   ·cases ht
  ·cases ht
 ·
  rename_i t n parts sz n' zero qs ho
  simp only[Bool.and_eq_true,beq_iff_eq]at hm
  obtain⟨⟨hn,hm⟩,ht⟩:=hm
  obtain⟨hR,hc⟩:=hA _ hm
  refine d_lit (mu:=false) ho hn ?_ hI hB hR hc ha
  split at ht
  ·rename_i he;rw[he];simpa using ht
  ·cases ht
 ·
  rename_i t n parts sz n' zero qs ho
  simp only[Bool.and_eq_true,beq_iff_eq]at hm
  obtain⟨⟨hn,hm⟩,ht⟩:=hm
  obtain⟨hR,hc⟩:=hA _ hm
  refine d_lit (mu:=true) ho hn ?_ hI hB hR hc ha
  split at ht
  ·rename_i he;rw[he];simpa using ht
  ·cases ht
 ·
  rename_i t x f off ho
  simp only[Bool.and_eq_true]at hm
  obtain⟨hm,ht⟩:=hm
  obtain⟨hR,hc⟩:=hA _ hm
  split at ht
  ·rename_i fs hu
   split at ht
   ·rename_i fd hf
    simp only[Bool.and_eq_true,beq_iff_eq]at ht
    obtain⟨h1,h2⟩:=ht
    subst h1
    split at h2
    ·rename_i i hi
     have hs:i.size≠0:=by simpa using h2
     unfold act0 at ha
     simp only at ha
     split at ha
     ·rename_i j k
      cases ha
      obtain⟨g,b,g1,g2,g3⟩:=hR.1
      refine Done.quiet hI hB (q_fieldAddr ho hu hf hi hs g3) ⟨g,b,g1,g2,?_⟩ fun d=>by simp[cntE]
      rw[addr_add]
     ·rename_i id ver i' k
      cases ha
      obtain⟨a,e1,e2⟩:=rep_fieldAddr hR.1 (.inl ⟨id,ver,i',k,rfl,rfl⟩)
      exact Done.noOwn hI hB (q_fieldAddr ho hu hf hi hs e1) e2 rfl
     ·rename_i sz rows i' k
      cases ha
      obtain⟨a,e1,e2⟩:=rep_fieldAddr hR.1 (.inr ⟨sz,rows,i',k,rfl,rfl⟩)
      exact Done.noOwn hI hB (q_fieldAddr ho hu hf hi hs e1) e2 rfl
     ·cases ha
    ·cases h2
   ·cases ht
  ·cases ht
 ·
  rename_i t x y sz ho
  simp only[Bool.and_eq_true]at hm
  obtain⟨hm,ht⟩:=hm
  obtain⟨hR,hc⟩:=hA _ hm
  split at ht
  ·rename_i e hu
   rw[d_indexAddr_lim]at ha
   have ha0:=ha
   unfold act0 at ha
   simp only at ha
   split at ha
   ·obtain⟨rfl,rfl,p,u,rfl,e1,e2,e3⟩:=q_indexAddr ho hu ht hI ha0 hR.1 (RepV.int_inv hR.2.1)
    exact Done.noOwn hI hB e1 e2 e3
   ·cases ha
  ·cases ht
 ·
  rename_i t x y ho
  simp only[Bool.and_eq_true]at hm
  obtain⟨hm,ht⟩:=hm
  obtain⟨hR,hc⟩:=hA _ hm
  split at ht
  ·rename_i hu
   unfold act0 at ha
   simp only at ha
   split at ha
   ·split at ha
    ·rename_i h0
     split at ha
     ·rename_i b hb
      cases ha
      exact Done.noOwn hI hB (q_index ho hu h0 hb hR.1 (RepV.int_inv hR.2.1)) (.int _ _) rfl
     ·cases ha
    ·cases ha
   ·cases ha
  ·cases ht
 ·
  rename_i t x lo hi mx isS l h m sz ho
  simp only[Bool.and_eq_true,beq_iff_eq]at hm
  obtain⟨⟨⟨⟨⟨hm,rfl⟩,rfl⟩,rfl⟩,hmh⟩,ht⟩:=hm
  obtain⟨hR,hc⟩:=hA _ hm
  refine d_slice ho (fun h=>by rw[h]at hmh;simpa using hmh) ?_ hI hB hR hc ha
  split at ht
  ·rename_i he;rw[he];exact ht
  ·rename_i he;rw[he];exact ht
  ·cases ht
 ·
  rename_i t x hi sz ho
  simp only[Bool.and_eq_true]at hm
  obtain⟨hm,ht⟩:=hm
  obtain⟨hR,hc⟩:=hA _ hm
  split at ht
  ·rename_i e hu
   have ha0:=ha
   unfold act0 at ha
   simp only at ha
   split at ha
   ·obtain⟨v,G',e1,e2⟩:=q_sliceM ho hu ht hI hB hX hR.1 hR.2.1 ha0
    exact⟨_,_,_,_,_,e1,.inl rfl,e2,BxStep.refl _ _⟩
   ·cases ha
  ·cases ht
 ·
  rename_i t x agg n take ho
  simp only[Bool.and_eq_true]at hm
  obtain⟨⟨⟨hm,hn⟩,hagg⟩,hone⟩:=hm
  obtain⟨hR,hc⟩:=hA _ hm
  have hagg':isAggT P t=some agg:=by simpa using hagg
  have hone':agg=false->n=1:=fun h=>by subst h;simpa using hone
  have ha0:=ha
  unfold act0 at ha
  simp only at ha
  split at ha
  ·rename_i p
   cases take with
   |true=>
    obtain⟨v,e1,e2⟩:=q_loadTake ho hn hagg' hone' hI hB hX hR.1 ha0
    exact⟨_,_,_,_,_,e1,.inl rfl,e2,BxStep.refl _ _⟩
   |false=>
    split at ha
    ·rename_i cs hread
     simp only[Bool.false_eq_true,if_false]at ha
     split at ha
     ·rename_i v hv
      cases ha
      obtain⟨b,off,xs,h1,h2,h3,h4⟩:=readP_ok hI hread hR.1
      obtain⟨u,e1,e2,e3⟩:=q_load ho hn hagg' hone' h1 h2 h3.view h4 hv
      exact Done.quiet hI hB e1 e2 fun d=>by
       simp only[cntE,e3 d]
       rw[cntL_noOwn d _ _ (noOwn_viewL cs)]
       omega
     ·cases ha
    ·cases ha
  ·cases ha
 ·
  rename_i t x j agg n take ho
  simp only[Bool.and_eq_true]at hm
  obtain⟨⟨⟨hm,hn⟩,hagg⟩,hone⟩:=hm
  obtain⟨hR,hc⟩:=hA _ hm
  have hagg':isAggT P t=some agg:=by simpa using hagg
  have hone':agg=false->n=1:=fun h=>by subst h;simpa using hone
  have ha0:=ha
  unfold act0 at ha
  simp only at ha
  split at ha
  ·obtain⟨v,e1,e2⟩:=q_loadF ho hn hagg' hone' hI hB hX hR.1 ha0
   exact⟨_,_,_,_,_,e1,.inl rfl,e2,BxStep.refl _ _⟩
  ·cases ha
 ·
  rename_i t x y n ho
  simp only[Bool.and_eq_true]at hm
  obtain⟨hm,hn⟩:=hm
  obtain⟨hR,hc⟩:=hA _ hm
  have ha0:=ha
  unfold act0 at ha
  simp only at ha
  split at ha
  ·obtain⟨w',G',e1,e2⟩:=q_store ho hn hI hB hX hR.1 hR.2.1 (fun b=>by have:=hc b;simp only[List.map_cons,cntEs,cntE]at this;omega) ha0
   exact⟨_,_,_,_,_,e1,.inr ⟨rfl,rfl⟩,e2,BxStep.refl _ _⟩
  ·cases ha
 ·
  rename_i t x y j n ho
  simp only[Bool.and_eq_true]at hm
  obtain⟨hm,hn⟩:=hm
  obtain⟨hR,hc⟩:=hA _ hm
  have ha0:=ha
  unfold act0 at ha
  simp only at ha
  split at ha
  ·obtain⟨w',G',β',e1,e2,e3⟩:=q_storeF ho hn hI hB hX hR.1 hR.2.1 (fun b=>by have:=hc b;simp only[List.map_cons,cntEs]at this;simp only[cntE]at this ⊢;omega) ha0
   exact⟨_,_,_,_,_,e1,.inr ⟨rfl,rfl⟩,e2,e3⟩
  ·cases ha
 ·
  rename_i t zero ho
  simp only[Bool.and_eq_true]at hm
  obtain⟨_,hz⟩:=hm
  obtain⟨i,z,hi,hiz,hzr,hzn,hzc⟩:=zeroIs_ok hz w G
  unfold act0 at ha
  simp only at ha
  split at ha
  ·cases ha
   obtain⟨G',hA'⟩:=act_alloc (t:=t) (cO:=cO) hI hB hzr hzn hzc
   exact⟨_,_,_,_,_,q_alloc ho hi hiz,.inl rfl,hA',BxStep.refl _ _⟩
  ·cases ha
 ·
  rename_i t j zero ho
  simp only[Bool.and_eq_true]at hm
  obtain⟨_,hz⟩:=hm
  obtain⟨i,z,hi,hiz,hzr,hzn,hzc⟩:=zeroIs_ok hz w G
  unfold act0 at ha
  simp only at ha
  split at ha
  ·split at ha
   ·rename_i hj
    cases ha
    have hb:j<β.length:=by rw[hB.len];exact hj
    refine⟨_,_,_,_,_,q_alloc ho hi hiz,.inl rfl,act_box (c:=z.cells) (e:=t) (w':=w.alloc (.cells z.cells t)) hI hB rfl rfl rfl hj hzr hzc (fun b=>by rw[cntL_zero hzn];omega),?_⟩
    exact BxStep.set (List.getElem?_eq_getElem hb) fun h=>absurd rfl h
   ·cases ha
  ·cases ha
 ·
  rename_i t x n ho
  obtain⟨hR,hc⟩:=hA _ hm
  unfold act0 at ha
  simp only at ha
  split at ha
  ·split at ha
   ·rename_i hcond
    simp only[Bool.and_eq_true,decide_eq_true_eq]at hcond
    cases ha
    obtain⟨G',hA'⟩:=act_boxv (t:=t) (cO:=cO) hI hB hR.1 hcond.1 hcond.2 (fun b=>by have:=hc b;simp only[List.map_cons,cntEs,cntE]at this;omega)
    exact⟨_,_,_,_,_,q_box ho,.inl rfl,hA',BxStep.refl _ _⟩
   ·cases ha
  ·cases ha
 ·
  rename_i t x j n ho
  obtain⟨hR,hc⟩:=hA _ hm
  unfold act0 at ha
  simp only at ha
  split at ha
  ·split at ha
   ·rename_i hcond
    simp only[Bool.and_eq_true,decide_eq_true_eq]at hcond
    cases ha
    have hb:j<β.length:=by rw[hB.len];exact hcond.1.1
    obtain⟨hcv,hcn⟩:=RepV.cells hR.1
    refine⟨_,_,_,_,_,q_box ho,.inl rfl,act_box (c:=(ρ x).cells) (e:=t) (w':=w.alloc (.cells (ρ x).cells t)) hI hB rfl rfl rfl hcond.1.1 hcv hcond.2 (fun b=>by have:=hc b;simp only[List.map_cons,cntEs,cntE]at this;rw[hcn];omega),?_⟩
    exact BxStep.set (List.getElem?_eq_getElem hb) fun h=>absurd rfl h
   ·cases ha
  ·cases ha
 ·
  rename_i t x y sz bytes zero mt ho
  simp only[Bool.and_eq_true]at hm
  obtain⟨hm,ht⟩:=hm
  obtain⟨hR,hc⟩:=hA _ hm
  split at ht
  ·rename_i e hu
   simp only[Bool.and_eq_true,decide_eq_true_eq]at ht
   obtain⟨⟨⟨⟨h1,h2⟩,h3⟩,h4⟩,h5⟩:=ht
   unfold act0 at ha
   simp only at ha
   split at ha
   ·rename_i n c
    split at ha
    ·rename_i hcond
     obtain⟨c1,c2,c3,c4⟩:=hcond
     have hcm:c<=9223372036854775807:=by
      have:c*1<=c*bytes:=Int.mul_le_mul_of_nonneg_left (by omega) (by omega)
      simp only[room]at c3
      omega
     obtain⟨cells,e1,e2,e3,e4⟩:=q_makeSl (w:=w) (G:=G) ho hu h1 h2 h3 h4 c4 (RepV.int_inv hR.1) (RepV.int_inv hR.2.1) c1 c2 c3 hcm
     obtain⟨_,_,_,_,_,hzn,hzc⟩:=zeroIs_ok h3 w G
     have hle:n.toNat*sz<=c.toNat*sz:=Nat.mul_le_mul_right _ (by omega)
     have hfit:fits sz (List.replicate n.toNat zero)=true:=fits_iff.2 fun r hr=>by rw[List.eq_of_mem_replicate hr,c4]
     have hcel:∀r∈List.replicate n.toNat zero,AV.allCells r=true:=fun r hr=>by rw[List.eq_of_mem_replicate hr];exact hzc
     have hx:∀(k:Nat) x,(cells.toList.take (n.toNat*sz))[k]?=some x->cells[k]?=some x:=fun k x hk=>by
      rw[List.getElem?_take]at hk
      split at hk
      ·simpa using hk
      ·cases hk
     split at ha
     ·cases ha
      by_cases hc0:c.toNat=0
      ·have hn0:n.toNat=0:=by omega
       rw[hn0,hc0]at e1
       rw[hn0]
       have hA0:Act1 w G β st bx cO (w.alloc (.cells cells e)) (G.new w.heap.size (some 0) [⟨some ⟨w.heap.size,0,none⟩,0,0,sz,0,false,[]⟩]) β (st++[.rows 0 sz []]) bx (.val (.mu st.length 0)) (.slice (some ⟨w.heap.size,0,none⟩) 0 0):=by
        have hl:(G.new w.heap.size (some 0) [⟨some ⟨w.heap.size,0,none⟩,0,0,sz,0,false,[]⟩]).ls[st.length]?=some ⟨some ⟨w.heap.size,0,none⟩,0,0,sz,0,false,[]⟩:=by
         simp only[Ghost.new]
         rw[List.getElem?_append_right (by rw[hI.len];exact Nat.le_refl _),hI.len]
         simp
        exact act_new_obj (w':=w.alloc (.cells cells e)) (ao:=.rows 0 sz []) (ob:=.cells cells e) rfl rfl rfl hI hB ⟨rfl,rfl,by simp[fits],by simp,rfl,rfl,rfl,fun i r xs h=>by simp at h,.inl ⟨rfl,rfl,rfl⟩⟩ (.mu _ _ _ _ ⟨_,_,_,rfl⟩ hl (Nat.le_refl _) fun _=>rfl) rfl fun b=>by simp[cntO,Loc.blk,cntLL]
       exact⟨_,_,_,_,_,e1,.inl rfl,hA0,BxStep.refl _ _⟩
      ·obtain⟨G',hA',_⟩:=act_rows (sz:=sz) (cap:=c.toNat) (rows:=List.replicate n.toNat zero) (c:=cells) (e:=e) (xs:=cells.toList.take (n.toNat*sz)) (w':=w.alloc (.cells cells e)) (cO:=cO) hI hB rfl rfl rfl hfit hcel e3 (by omega) (by omega) (by simp;omega) hx (fun b=>by rw[e4];omega)
       rw[List.length_replicate]at hA'
       exact⟨_,_,_,_,_,e1,.inl rfl,hA',BxStep.refl _ _⟩
     ·split at ha
      ·rename_i hpz
       cases ha
       obtain⟨G',hA'⟩:=act_own (sz:=sz) (cap:=c.toNat) (rows:=List.replicate n.toNat zero) (c:=cells) (e:=e) (xs:=cells.toList.take (n.toNat*sz)) (w':=w.alloc (.cells cells e)) (cO:=cO) hI hB rfl rfl rfl hfit hcel
        (fun r hr=>by rw[List.eq_of_mem_replicate hr];exact(noOwnL_iff zero).2 fun c hc=>(hzn c hc).1) (fun r hr=>by rw[List.eq_of_mem_replicate hr];exact hpz) e3 (by omega) (by simp;omega) hx
       rw[List.length_replicate]at hA'
       exact⟨_,_,_,_,_,e1,.inl rfl,hA',BxStep.refl _ _⟩
      ·cases ha
    ·cases ha
   ·cases ha
  ·cases ht
 ·
  rename_i t ho
  unfold act0 at ha
  simp only at ha
  split at ha
  ·cases ha
   obtain⟨G',hA'⟩:=act_map (cO:=cO) hI hB
   exact⟨_,_,_,_,_,by simp only[execOp,ho,Option.map_none,Sem.run_bind,show (Instr.makeMap t none).run P w=.ok (.map (some w.heap.size)) (w.alloc (.map #[] 0)) from rfl,Result.andThen_ok,Sem.run_pure],.inl rfl,hA',BxStep.refl _ _⟩
  ·cases ha
 ·
  rename_i t m k x kk ho
  simp only[Bool.and_eq_true]at hm
  obtain⟨hm,ht⟩:=hm
  obtain⟨hR,hc⟩:=hA _ hm
  split at ht
  ·rename_i kt et hu
   have ha0:=ha
   unfold act0 at ha
   simp only at ha
   split at ha
   ·obtain⟨w',G',e1,e2⟩:=q_mapUpdate (.inl ho) hu ht hI hB hX hR.1 hR.2.1 hR.2.2.1 ha0
    exact⟨_,_,_,_,_,e1,.inr ⟨rfl,rfl⟩,e2,BxStep.refl _ _⟩
   ·cases ha
  ·cases ht
 ·
  rename_i t m k x kk ho
  simp only[Bool.and_eq_true]at hm
  obtain⟨hm,ht⟩:=hm
  obtain⟨hR,hc⟩:=hA _ hm
  split at ht
  ·rename_i kt et hu
   have ha0:=ha
   unfold act0 at ha
   simp only at ha
   split at ha
   ·obtain⟨w',G',e1,e2⟩:=q_mapUpdate (.inr ho) hu ht hI hB hX hR.1 hR.2.1 hR.2.2.1 ha0
    exact⟨_,_,_,_,_,e1,.inr ⟨rfl,rfl⟩,e2,BxStep.refl _ _⟩
   ·cases ha
  ·cases ht
 ·
  rename_i t m k ok kk zero ok' ho
  simp only[Bool.and_eq_true,beq_iff_eq]at hm
  obtain⟨⟨rfl,hm⟩,ht⟩:=hm
  obtain⟨hR,hc⟩:=hA _ hm
  split at ht
  ·rename_i kt et hu
   simp only[Bool.and_eq_true]at ht
   obtain⟨ht,hz⟩:=ht
   split at hz
   ·rename_i ie hie
    split at hz
    ·rename_i z hzz
     unfold act0 at ha
     simp only at ha
     split at ha
     ·rename_i am ak
      split at ha
      ·cases ha
      ·rename_i es hes
       split at ha
       ·split at ha
        ·cases ha
        ·rename_i res hf
         cases ha
         have hes':(am=.nilMap/\es=[])\/∃id,am=.map id/\st[id]?=some (.map es):=by
          split at hes
          ·cases hes;exact .inl ⟨rfl,rfl⟩
          ·rename_i id
           split at hes
           ·rename_i hst;cases hes;exact .inr ⟨id,rfl,hst⟩
           ·cases hes
          ·cases hes
         obtain⟨u,e1,e2,e3⟩:=q_lookup ho hu ht hie hzz hz hI hes' hf hR.1 hR.2.1
         refine Done.noOwn hI hB e1 e2 ?_
         cases ok
         ·exact e3
         ·simp[AV.noOwn,AV.noOwnL,e3]
       ·cases ha
     ·cases ha
    ·cases hz
   ·cases hz
  ·cases ht
 ·
  rename_i f first caps f' n ho
  simp only[Bool.and_eq_true,beq_iff_eq,decide_eq_true_eq]at hm
  obtain⟨⟨⟨rfl,hm⟩,rfl⟩,hf⟩:=hm
  obtain⟨hR,hc⟩:=hA _ hm
  unfold act0 at ha
  simp only at ha
  split at ha
  ·rename_i vs hvs
   cases ha
   obtain⟨hv,hcv⟩:=hR.repC hvs
   obtain⟨e1,e2⟩:=q_makeFunc (P:=P) hf ho hv
   exact Done.noOwn hI hB e1 e2 rfl
  ·cases ha
 ·
  rename_i c k ho
  simp only[Bool.and_eq_true,beq_iff_eq]at hm
  obtain⟨⟨hm,hsz⟩,ht⟩:=hm
  obtain⟨hR,hc⟩:=hA _ hm
  obtain⟨x,hx⟩:∃x,c.args.toList=[x]:=List.length_eq_one_iff.1 (by simpa using hsz)
  rw[hx]at hR hc
  split at ht
  ·rename_i t hcal hty
   unfold act0 at ha
   simp only at ha
   split at ha
   ·split at ha
    ·rename_i n hn
     cases ha
     refine Done.noOwn hI hB (q_len ho hcal hx hty (k:=k) ?_ hI hn hR.1) (.int _ _) rfl
     split at ht
     ·assumption
     ·exact⟨_,by assumption⟩
     ·exact⟨_,_,by assumption⟩
     ·cases ht
    ·cases ha
   ·cases ha
  ·cases ht
 ·
  rename_i c mx ho
  simp only[Bool.and_eq_true,beq_iff_eq]at hm
  obtain⟨⟨hm,hsz⟩,ht⟩:=hm
  obtain⟨hR,hc⟩:=hA _ hm
  obtain⟨x,y,hx⟩:∃x y,c.args.toList=[x,y]:=two_of (by simpa using hsz)
  rw[hx]at hR hc
  unfold act0 at ha
  simp only at ha
  split at ha
  ·split at ha
   ·rename_i hk
    subst hk
    cases ha
    split at ht
    ·rename_i hcal
     rw[if_pos ht]
     exact Done.noOwn hI hB (q_max ho hcal hx hR.1 hR.2.1) (.int _ _) rfl
    ·rename_i hcal
     rw[if_neg (by simpa using ht)]
     exact Done.noOwn hI hB (q_min ho hcal hx hR.1 hR.2.1) (.int _ _) rfl
    ·cases ht
   ·cases ha
  ·cases ha
 ·
  rename_i c sz bytes ho
  simp only[Bool.and_eq_true,beq_iff_eq]at hm
  obtain⟨⟨⟨hm,hsz⟩,hty2⟩,ht⟩:=hm
  obtain⟨hR,hc⟩:=hA _ hm
  obtain⟨x,y,hx⟩:∃x y,c.args.toList=[x,y]:=two_of (by simpa using hsz)
  rw[hx]at hR hc
  split at ht
  ·rename_i t u hcal ht0 ht1
   simp only[Bool.and_eq_true]at ht
   obtain⟨hs1,hs2⟩:=ht
   split at hs1
   ·rename_i e hu
    simp only[Bool.and_eq_true,decide_eq_true_eq]at hs1
    obtain⟨⟨⟨⟨h1,h2⟩,h3⟩,h4⟩,h5⟩:=hs1
    split at h5
    ·rename_i i hi
     split at h5
     ·rename_i z hz
      simp only[beq_iff_eq]at h5
      have hT:AppT P t u e sz bytes i z:=by
       refine⟨hu,hi,hz,?_,?_,h5,h3,h4,?_⟩
       ·obtain⟨i',hi',his,_⟩:=info_cells h1
        rw[hi]at hi';cases hi';exact his
       ·simpa [bytesIs,hi] using h2
       ·split at hs2
        ·exact .inl ⟨_,by assumption⟩
        ·exact .inr (by assumption)
        ·cases hs2
      have ha0:=ha
      unfold act0 at ha
      simp only at ha
      split at ha
      ·obtain⟨v,w',G',e1,e2⟩:=q_append (ty:=o.type) hT hI hB hX hR.1 hR.2.1 (fun b=>by have:=hc b;simp only[List.map_cons,cntEs,cntE]at this;omega) ha0
       refine⟨_,_,_,_,_,?_,.inl rfl,e2,BxStep.refl _ _⟩
       simp only[execOp,ho,resolve,hcal,Sem.run_bind,Sem.run_pure,Result.andThen_ok,invoke,builtin,call_args2 hx,app_types hty2 ht0 ht1]
       simp[e1]
      ·cases ha
     ·cases h5
    ·cases h5
   ·cases hs1
  ·cases ht
 ·
  rename_i c sz bytes ho
  simp only[Bool.and_eq_true,beq_iff_eq]at hm
  obtain⟨⟨⟨hm,hsz⟩,hty2⟩,ht⟩:=hm
  obtain⟨hR,hc⟩:=hA _ hm
  obtain⟨x,y,hx⟩:∃x y,c.args.toList=[x,y]:=two_of (by simpa using hsz)
  rw[hx]at hR hc
  split at ht
  ·rename_i t u hcal ht0 ht1
   simp only[Bool.and_eq_true]at ht
   obtain⟨hs1,hs2⟩:=ht
   split at hs1
   ·rename_i e hu
    simp only[Bool.and_eq_true,decide_eq_true_eq]at hs1
    obtain⟨⟨⟨⟨h1,h2⟩,h3⟩,h4⟩,h5⟩:=hs1
    split at h5
    ·rename_i i hi
     split at h5
     ·rename_i z hz
      simp only[beq_iff_eq]at h5
      have hT:AppT P t u e sz bytes i z:=by
       refine⟨hu,hi,hz,?_,?_,h5,h3,h4,?_⟩
       ·obtain⟨i',hi',his,_⟩:=info_cells h1
        rw[hi]at hi';cases hi';exact his
       ·simpa [bytesIs,hi] using h2
       ·split at hs2
        ·exact .inl ⟨_,by assumption⟩
        ·exact .inr (by assumption)
        ·cases hs2
      have ha0:=ha
      unfold act0 at ha
      simp only at ha
      split at ha
      ·obtain⟨v,w',G',e1,e2⟩:=q_appendM (ty:=o.type) hT hI hB hX hR.1 hR.2.1 ha0
       refine⟨_,_,_,_,_,?_,.inl rfl,e2,BxStep.refl _ _⟩
       simp only[execOp,ho,resolve,hcal,Sem.run_bind,Sem.run_pure,Result.andThen_ok,invoke,builtin,call_args2 hx,app_types hty2 ht0 ht1]
       simp[e1]
      ·cases ha
     ·cases h5
    ·cases h5
   ·cases hs1
  ·cases ht
 ·
  rename_i c sz ho
  simp only[Bool.and_eq_true,beq_iff_eq]at hm
  obtain⟨⟨⟨hm,hsz⟩,hty2⟩,ht⟩:=hm
  obtain⟨hR,hc⟩:=hA _ hm
  obtain⟨x,y,hx⟩:∃x y,c.args.toList=[x,y]:=two_of (by simpa using hsz)
  rw[hx]at hR hc
  split at ht
  ·rename_i t u hcal ht0 ht1
   simp only[Bool.and_eq_true]at ht
   obtain⟨hs1,hs2⟩:=ht
   split at hs1
   ·rename_i e hu
    have hk:(∃e',P.underlying u=some (.slice e'))\/P.underlying u=some .string:=by
     split at hs2
     ·exact .inl ⟨_,by assumption⟩
     ·exact .inr (by assumption)
     ·cases hs2
    have ha0:=ha
    unfold act0 at ha
    simp only at ha
    split at ha
    ·obtain⟨v,w',G',e1,e2⟩:=q_copy (ty:=o.type) hu hs1 hk hI hB hX hR.1 hR.2.1 ha0
     refine⟨_,_,_,_,_,?_,.inl rfl,e2,BxStep.refl _ _⟩
     simp only[execOp,ho,resolve,hcal,Sem.run_bind,Sem.run_pure,Result.andThen_ok,invoke,builtin,call_args2 hx,app_types hty2 ht0 ht1]
     simp[e1]
    ·cases ha
   ·cases hs1
  ·cases ht
 ·
  rename_i s d x ho
  simp only[Bool.and_eq_true]at hm
  obtain⟨hm,ht⟩:=hm
  obtain⟨hR,hc⟩:=hA _ hm
  split at ht
  ·rename_i e h1 h2
   split at ht
   ·rename_i h3
    unfold act0 at ha
    simp only at ha
    split at ha
    ·split at ha
     ·rename_i rows hrows
      split at ha
      ·rename_i l hl
       cases ha
       obtain⟨u,e1,e2⟩:=q_toStr ho h1 h3 h2 hI hR.1 hrows hl
       exact Done.noOwn hI hB e1 e2 rfl
      ·cases ha
     ·cases ha
    ·cases ha
   ·cases ht
  ·cases ht
 ·
  unfold act0 at ha
  cases ha
 ·
  unfold act0 at ha
  cases ha
 ·cases hm
end Ax
namespace Ax
open Go
variable {P:Program}{w w':World}{G G':Ghost}{β β':List BxG}
theorem getE_set (d:Nat)(e:Ent)(t:Nat):∀env:Env,getE (setE env d e) t=if t=d then e else getE env t
 |[]=>by
  simp only[setE,getE]
  by_cases h:d=t
  ·rw[if_pos h,if_pos h.symm]
  ·rw[if_neg h,if_neg (show ¬t=d from fun e=>h e.symm)]
 |(k,x)::r=>by
  have ih:=getE_set d e t r
  unfold setE
  split
  ·simp only[getE]
   by_cases h:d=t
   ·rw[if_pos h,if_pos h.symm]
   ·rw[if_neg h,if_neg (show ¬t=d from fun e=>h e.symm)]
  ·split
   ·rename_i hk
    subst hk
    simp only[getE]
    by_cases h:d=t
    ·rw[if_pos h,if_pos h.symm]
    ·rw[if_neg h,if_neg (show ¬t=d from fun e=>h e.symm),if_neg h]
   ·simp only[getE,ih]
    by_cases h:k=t
    ·rw[if_pos h,if_pos h,if_neg (by omega)]
    ·rw[if_neg h,if_neg h]
theorem getE_del (d t:Nat):∀env:Env,getE (delE env d) t=if t=d then .none else getE env t
 |[]=>by simp[delE,getE]
 |(k,x)::r=>by
  have ih:=getE_del d t r
  unfold delE
  split
  ·rename_i h
   rw[ih]
   simp only[getE]
   by_cases h2:t=d
   ·rw[if_pos h2,if_pos h2]
   ·rw[if_neg h2,if_neg h2,if_neg (by omega)]
  ·simp only[getE,ih]
   by_cases h2:t=d
   ·rw[if_pos h2,if_pos h2]
    rw[if_neg (by omega)]
   ·rw[if_neg h2,if_neg h2]
def mvs:List Src->List Nat
 |[]=>[]
 |.tmp t true::r=>t::mvs r
 |_::r=>mvs r
theorem getE_kill (t:Nat):∀(ss:List Src)(env:Env),getE (ss.foldl killE env) t=if t∈mvs ss then .none else getE env t
 |[],env=>by simp[mvs]
 |.tmp u true::r,env=>by
  simp only[List.foldl_cons,killE,mvs,getE_kill t r,getE_del,List.mem_cons]
  by_cases h1:t∈mvs r
  ·simp[h1]
  ·by_cases h2:t=u
   ·simp[h2]
   ·simp[h1,h2]
 |.tmp u false::r,env=>by rw[List.foldl_cons,getE_kill t r];rfl
 |.const a::r,env=>by rw[List.foldl_cons,getE_kill t r];rfl
theorem getE_clear (t:Nat):∀(l:List Nat)(env:Env),getE (clearE l env) t=if t∈l then .none else getE env t
 |[],env=>by simp[clearE]
 |u::l,env=>by
  simp only[clearE,getE_clear t l,getE_del,List.mem_cons]
  by_cases h1:t∈l
  ·simp[h1]
  ·by_cases h2:t=u
   ·simp[h2]
   ·simp[h1,h2]
theorem getE_args (t:Nat):∀(k:Nat)(l:List AV),getE (argsE k l) t=if k<=t then (match l[t-k]? with|some v=>.val v|none=>.none) else .none
 |k,[]=>by simp[argsE,getE]
 |k,v::r=>by
  simp only[argsE,getE,getE_args t (k+1) r]
  by_cases h:k=t
  ·subst h;simp
  ·rw[if_neg h]
   by_cases h2:k<=t
   ·rw[if_pos h2,if_pos (by omega),show t-k=(t-(k+1))+1 by omega]
    simp
   ·rw[if_neg h2,if_neg (by omega)]
theorem noFp_get {j:Nat}:∀{env:Env},noFp j env=true->∀t,(getE env t).notFp j=true
 |[],_,_=>rfl
 |(k,x)::r,h,t=>by
  simp only[noFp,List.all_cons,Bool.and_eq_true]at h
  simp only[getE]
  split
  ·exact h.1
  ·exact noFp_get (env:=r) (by simpa [noFp] using h.2) t
def sumN (f:Nat->Nat):Nat->Nat
 |0=>0
 |n+1=>sumN f n+f n
theorem sumN_congr {f g:Nat->Nat}:∀{n:Nat},(∀t,t<n->f t=g t)->sumN f n=sumN g n
 |0,_=>rfl
 |n+1,h=>by simp only[sumN];rw[sumN_congr fun t ht=>h t (by omega),h n (by omega)]
theorem sumN_le {f g:Nat->Nat}:∀{n:Nat},(∀t,t<n->f t<=g t)->sumN f n<=sumN g n
 |0,_=>Nat.le_refl _
 |n+1,h=>by
  simp only[sumN]
  have h1:=sumN_le (f:=f) (g:=g) (n:=n) fun t ht=>h t (by omega)
  have h2:=h n (by omega)
  omega
theorem sumN_upd {f g:Nat->Nat}{d:Nat}:∀{n:Nat},d<n->(∀t,t≠d->f t=g t)->sumN f n+g d=sumN g n+f d
 |0,h,_=>by omega
 |n+1,h,he=>by
  simp only[sumN]
  by_cases hd:d=n
  ·subst hd
   rw[sumN_congr (f:=f) (g:=g) fun t ht=>he t (by omega)]
   omega
  ·have:=sumN_upd (f:=f) (g:=g) (n:=n) (d:=d) (by omega) he
   rw[he n fun e=>hd e.symm]
   omega
theorem sumN_get {f:Nat->Nat}{t n:Nat}(h:t<n):f t<=sumN f n:=by
 have:=sumN_upd (f:=fun u=>if u=t then 0 else f u) (g:=f) (d:=t) h fun u hu=>if_neg hu
 simp only[if_true]at this
 omega
theorem sumN_zero {n:Nat}:sumN (fun _=>0) n=0:=by
 induction n with
 |zero=>rfl
 |succ n ih=>simp[sumN,ih]
def sumL (f:Nat->Nat):List Nat->Nat
 |[]=>0
 |t::l=>f t+sumL f l
theorem sumL_le {f:Nat->Nat}{n:Nat}(hf:∀t,n<=t->f t=0):∀(l:List Nat),l.Nodup->sumL f l+sumN (fun t=>if t∈l then 0 else f t) n<=sumN f n
 |[],_=>by simp[sumL]
 |t::l,h=>by
  have ih:=sumL_le hf l (List.nodup_cons.1 h).2
  have hn:=(List.nodup_cons.1 h).1
  simp only[sumL]
  by_cases ht:t<n
  ·have:=sumN_upd (f:=fun u=>if u∈t::l then 0 else f u) (g:=fun u=>if u∈l then 0 else f u) (d:=t) ht fun u hu=>by simp[hu]
   simp only[List.mem_cons,true_or,if_true,if_neg hn]at this
   simp only[List.mem_cons]
   omega
  ·rw[hf t (by omega)]
   rw[sumN_congr (f:=fun u=>if u∈t::l then 0 else f u) (g:=fun u=>if u∈l then 0 else f u) fun u hu=>by simp[show u≠t by omega]]
   omega
mutual
def AV.under (n:Nat):AV->Bool
 |.mu i _|.ptr i _ _ _|.map i=>decide (i<n)
 |.agg cs|.tup cs=>AV.underL n cs
 |.fn _ a b=>AV.underL n a&&AV.underL n b
 |_=>true
def AV.underL (n:Nat):List AV->Bool
 |[]=>true
 |v::r=>v.under n&&AV.underL n r
end
theorem underL_iff (n:Nat):∀cs:List AV,AV.underL n cs=true↔∀c∈cs,c.under n=true
 |[]=>by simp[AV.underL]
 |c::cs=>by simp[AV.underL,underL_iff n cs]
mutual
theorem under_pure (n:Nat):∀a:AV,a.isPure=true->a.under n=true
 |.mu _ _,h=>by simp[AV.isPure]at h
 |.ptr _ _ _ _,h=>by simp[AV.isPure]at h
 |.map _,h=>by simp[AV.isPure]at h
 |.agg cs,h=>by simp only[AV.isPure,AV.under]at *;exact underL_pure n cs h
 |.tup cs,h=>by simp only[AV.isPure,AV.under]at *;exact underL_pure n cs h
 |.fn _ a b,h=>by simp only[AV.isPure,AV.under,Bool.and_eq_true]at *;exact⟨underL_pure n a h.1,underL_pure n b h.2⟩
 |.undef,_|.gone,_|.bool _,_|.int _ _,_|.str _,_|.nilPtr,_|.nilSl,_|.nilMap,_|.nilFn,_|.nilIf,_|.lst _ _,_|.own _ _,_|.emp,_|.pel _ _ _ _,_=>by simp[AV.under]
theorem underL_pure (n:Nat):∀cs:List AV,AV.allPure cs=true->AV.underL n cs=true
 |[],_=>rfl
 |c::cs,h=>by
  simp only[AV.allPure,Bool.and_eq_true]at h
  simp only[AV.underL,under_pure n c h.1,underL_pure n cs h.2,Bool.and_self]
end
mutual
theorem under_mono {m n:Nat}(hmn:m<=n):∀a:AV,a.under m=true->a.under n=true
 |.mu _ _,h|.ptr _ _ _ _,h|.map _,h=>by simp only[AV.under,decide_eq_true_eq]at *;omega
 |.agg cs,h=>by simp only[AV.under]at *;exact underL_mono hmn cs h
 |.tup cs,h=>by simp only[AV.under]at *;exact underL_mono hmn cs h
 |.fn _ a b,h=>by simp only[AV.under,Bool.and_eq_true]at *;exact⟨underL_mono hmn a h.1,underL_mono hmn b h.2⟩
 |.undef,_|.gone,_|.bool _,_|.int _ _,_|.str _,_|.nilPtr,_|.nilSl,_|.nilMap,_|.nilFn,_|.nilIf,_|.lst _ _,_|.own _ _,_|.emp,_|.pel _ _ _ _,_=>by simp[AV.under]
theorem underL_mono {m n:Nat}(hmn:m<=n):∀cs:List AV,AV.underL m cs=true->AV.underL n cs=true
 |[],_=>rfl
 |c::cs,h=>by
  simp only[AV.underL,Bool.and_eq_true]at *
  exact⟨under_mono hmn c h.1,underL_mono hmn cs h.2⟩
end
theorem RepV.isUnder {a:AV}{v:Value}(h:RepV w G a v):a.under G.ls.length=true:=by
 induction h with
 |agg cs vs hl h ih=>
  simp only[AV.under]
  refine(underL_iff _ cs).2 fun c hc=>?_
  obtain⟨i,hi,rfl⟩:=List.mem_iff_getElem.1 hc
  have hi':i<vs.size:=by omega
  exact ih i cs[i] vs[i] (List.getElem?_eq_getElem hi) (by simp[hi'])
 |tup cs vs hl h ih=>
  simp only[AV.under]
  refine(underL_iff _ cs).2 fun c hc=>?_
  obtain⟨i,hi,rfl⟩:=List.mem_iff_getElem.1 hc
  have hi':i<vs.size:=by omega
  exact ih i cs[i] vs[i] (List.getElem?_eq_getElem hi) (by simp[hi'])
 |mu id ver v loc hp hl hv he=>simpa [AV.under] using (List.getElem?_eq_some_iff.1 hl).1
 |ptr id ver i k v loc hp hl hv he=>simpa [AV.under] using (List.getElem?_eq_some_iff.1 hl).1
 |map id loc b hl hm hb=>simpa [AV.under] using (List.getElem?_eq_some_iff.1 hl).1
 |fn f first caps vf vc hl hm hn h k ih ik=>
  simp only[AV.under,Bool.and_eq_true]
  refine⟨(underL_iff _ first).2 fun c hc=>?_,(underL_iff _ caps).2 fun c hc=>?_⟩
  ·obtain⟨i,hi,rfl⟩:=List.mem_iff_getElem.1 hc
   have hi':i<vf.size:=by omega
   exact ih i first[i] vf[i] (List.getElem?_eq_getElem hi) (by simp[hi'])
  ·obtain⟨i,hi,rfl⟩:=List.mem_iff_getElem.1 hc
   have hi':i<vc.size:=by omega
   exact ik i caps[i] vc[i] (List.getElem?_eq_getElem hi) (by simp[hi'])
 |_=>simp[AV.under]
def Ghost.cut (G:Ghost)(n:Nat):Ghost:=⟨G.ls.take n,G.tip⟩
theorem cut_get {n i:Nat}{loc:Loc}(h:G.ls[i]?=some loc)(hi:i<n):(G.cut n).ls[i]?=some loc:=by
 simp only[Ghost.cut];rw[List.getElem?_take,if_pos hi];exact h
theorem RepV.cutG {n:Nat}{a:AV}{v:Value}(h:RepV w G a v):a.under n=true->RepV w (G.cut n) a v:=by
 induction h with
 |undef=>exact fun _=>.undef
 |gone v h=>exact fun _=>.gone v h
 |bool b=>exact fun _=>.bool b
 |int k n=>exact fun _=>.int k n
 |str l s h=>exact fun _=>.str l s h
 |nilPtr=>exact fun _=>.nilPtr
 |nilSl=>exact fun _=>.nilSl
 |nilMap=>exact fun _=>.nilMap
 |nilFn=>exact fun _=>.nilFn
 |nilIf=>exact fun _=>.nilIf
 |agg cs vs hl h ih=>exact fun hb=>.agg cs vs hl fun i c v h1 h2=>ih i c v h1 h2 ((underL_iff n cs).1 (by simpa [AV.under] using hb) c (mem_get h1))
 |tup cs vs hl h ih=>exact fun hb=>.tup cs vs hl fun i c v h1 h2=>ih i c v h1 h2 ((underL_iff n cs).1 (by simpa [AV.under] using hb) c (mem_get h1))
 |lst sz rows a cap hsp hcap hfit hno hpu hce hc hr ih=>
  exact fun _=>.lst sz rows a cap hsp hcap hfit hno hpu hce hc fun i r j c v h1 h2 h3=>ih i r j c v h1 h2 h3 (under_pure n c ((allPure_iff r).1 (hpu r (mem_get h1)) c (mem_get h2)))
 |own sz rows a cap hsp hcap hfit hno hpu hce hc hr htip hblk ih=>
  exact fun _=>.own sz rows a cap hsp hcap hfit hno hpu hce hc (fun i r j c v h1 h2 h3=>ih i r j c v h1 h2 h3 (under_pure n c ((allPure_iff r).1 (hpu r (mem_get h1)) c (mem_get h2)))) htip hblk
 |emp a=>exact fun _=>.emp a
 |mu id ver v loc hp hl hv he=>exact fun hb=>.mu id ver v loc hp (cut_get hl (by simpa [AV.under] using hb)) hv he
 |ptr id ver i k v loc hp hl hv he=>exact fun hb=>.ptr id ver i k v loc hp (cut_get hl (by simpa [AV.under] using hb)) hv he
 |pel sz rows i k a cap hs ih=>exact fun _=>.pel sz rows i k a cap (ih (by simp[AV.under]))
 |map id loc b hl hm hb=>exact fun hb'=>.map id loc b (cut_get hl (by simpa [AV.under] using hb')) hm hb
 |fn f first caps vf vc hl hm hn h k ih ik=>
  intro hb
  simp only[AV.under,Bool.and_eq_true]at hb
  exact .fn f first caps vf vc hl hm hn (fun i c v h1 h2=>ih i c v h1 h2 ((underL_iff n first).1 hb.1 c (mem_get h1))) fun i c v h1 h2=>ik i c v h1 h2 ((underL_iff n caps).1 hb.2 c (mem_get h1))
def AObj.under (n:Nat):AObj->Bool
 |.rows _ _ rs=>rs.all (AV.underL n)
 |.map es=>es.all fun e=>e.1.under n&&e.2.under n
theorem RepO.cutG {n:Nat}{ob:AObj}{loc:Loc}(h:RepO w G ob loc)(hb:ob.under n=true):RepO w (G.cut n) ob loc:=by
 cases ob with
 |rows ver sz rows=>
  obtain⟨h1,h2,h3⟩:=h
  simp only[AObj.under,List.all_eq_true]at hb
  refine⟨h1,h2,h3.fit,h3.cel,h3.len,h3.size,h3.vlen,fun i r xs e1 e2=>?_,h3.lies⟩
  obtain⟨a1,a2⟩:=h3.reps i r xs e1 e2
  exact⟨a1,fun j c v g1 g2=>(a2 j c v g1 g2).cutG ((underL_iff n r).1 (hb r (mem_get e1)) c (mem_get g1))⟩
 |map es=>
  obtain⟨h1,h2,b,es',clock,h3,h4,h5,h6,h7⟩:=h
  simp only[AObj.under,List.all_eq_true,Bool.and_eq_true]at hb
  refine⟨h1,h2,b,es',clock,h3,h4,h5,h6,fun i k v e e1 e2=>?_⟩
  obtain⟨g1,g2,g3,g4⟩:=h7 i k v e e1 e2
  have:=hb (k,v) (mem_get e1)
  exact⟨g1.cutG this.1,g2.cutG this.2,g3,g4⟩
theorem RepO.isUnder {ob:AObj}{loc:Loc}(h:RepO w G ob loc):ob.under G.ls.length=true:=by
 cases ob with
 |rows ver sz rows=>
  obtain⟨h1,h2,h3⟩:=h
  simp only[AObj.under,List.all_eq_true]
  intro r hr
  obtain⟨i,hi,rfl⟩:=List.mem_iff_getElem.1 hr
  have hi':i<loc.vals.length:=by rw[h3.vlen];exact hi
  obtain⟨a1,a2⟩:=h3.reps i rows[i] loc.vals[i] (List.getElem?_eq_getElem hi) (List.getElem?_eq_getElem hi')
  refine(underL_iff _ _).2 fun c hc=>?_
  obtain⟨j,hj,rfl⟩:=List.mem_iff_getElem.1 hc
  have hj':j<loc.vals[i].length:=by omega
  exact(a2 j _ _ (List.getElem?_eq_getElem hj) (List.getElem?_eq_getElem hj')).isUnder
 |map es=>
  obtain⟨h1,h2,b,es',clock,h3,h4,h5,h6,h7⟩:=h
  simp only[AObj.under,List.all_eq_true,Bool.and_eq_true]
  intro x hx
  obtain⟨i,hi,rfl⟩:=List.mem_iff_getElem.1 hx
  have hi':i<es'.size:=by omega
  obtain⟨g1,g2,_,_⟩:=h7 i es[i].1 es[i].2 es'[i] (List.getElem?_eq_getElem hi) (by simp[hi'])
  exact⟨g1.isUnder,g2.isUnder⟩
def LimOk (l:Nat)(st:Store):Prop:=∀(id:Nat) ob,id<l->st[id]?=some ob->ob.under l=true
theorem Inv.limOk {st:Store}(h:Inv w G st):LimOk st.length st:=by
 intro id ob _ hob
 obtain⟨loc,hl,hr⟩:=h.loc hob
 rw[<-h.len];exact hr.isUnder
theorem Inv.cutG {st:Store}{n:Nat}(h:Inv w G st)(hl:LimOk n st):Inv w (G.cut n) (st.take n) where
 len:=by simp[Ghost.cut,h.len]
 obj:=fun id ob loc h1 h2=>by
  simp only[Ghost.cut]at h2
  rw[List.getElem?_take]at h1 h2
  split at h1
  ·rename_i hid
   rw[if_pos hid]at h2
   exact(h.obj id ob loc h1 h2).cutG (hl id ob hid h1)
  ·cases h1
 tips:=h.tips
theorem stp_cut {n:Nat}(h:Stp w G w' G')(hn:G.ls.length<=n):Stp w G w' (G'.cut n) where
 imm:=h.imm
 ids:=fun id loc hl=>by
  obtain⟨loc',a1,a2,a3⟩:=h.ids id loc hl
  exact⟨loc',cut_get a1 (by have:=(List.getElem?_eq_some_iff.1 hl).1;omega),a2,a3⟩
theorem cntS_take (b:Nat):∀(n:Nat)(ls:List Loc)(st:Store),cntS b (ls.take n) (st.take n)<=cntS b ls st
 |0,ls,st=>by simp[cntS]
 |n+1,[],st=>by simp[cntS]
 |n+1,l::ls,[]=>by simp[cntS]
 |n+1,l::ls,o::st=>by
  have:=cntS_take b n ls st
  simp only[List.take_succ_cons,cntS];omega
end Ax
