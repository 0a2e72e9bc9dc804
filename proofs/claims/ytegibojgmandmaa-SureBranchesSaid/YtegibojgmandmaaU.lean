/- Part of a proof. -/
import Derived.Test.YtegibojgmandmaaX
import Derived.Test.YtegibojgmandmaaY
import Derived.Test.YtegibojgmandmaaS
import Derived.Test.YtegibojgmandmaaK
import Derived.KernelRfl

set_option maxRecDepth 100000
set_option maxHeartbeats 8000000
namespace S9
open Ax Go Code9 V7 Par Chk K9 N7 U7 Unp Lx
def act (a:Bool):Sm:=if a then .mk 3 [120] [] 0 [Em 1 1 [] [] 0 [] 0] [] [] 0 0 else .mk 8 [] [] 0 [Em 1 1 [] [] 0 [] 0] [] [] 0 0
def vb:E:=Em 4 0 [98] [] 0 [] 0
def nest:List Bool->Sm
 |[]=>.mk 3 [120] [] 0 [Em 1 2 [] [] 0 [] 0] [] [] 0 0
 |a::l=>.mk 5 [] [] 0 [vb] [act a] [nest l] 0 0
def sLet:Sm:=.mk 2 [98] Unp.nBool 0 [Em 2 1 [] [] 0 [] 0] [] [] 0 0
def sVar:Sm:=.mk 1 [120] Unp.nInt 0 [] [] [] 0 0
def sPrint:Sm:=.mk 8 [] [] 0 [Em 4 0 [120] [] 0 [] 0] [] [] 0 0
def body (l:List Bool):List Sm:=[sLet,sVar,nest l,sPrint]
def wMain:List UInt8:=[109,97,105,110]
def mainF (l:List Bool):Fc:=⟨wMain,[],false,[],0,body l,0⟩
def prog (l:List Bool):Pg:=⟨[],[],[mainF l]⟩
def tHd:List UInt8:=[102,117,110,99,32,109,97,105,110,40,41,32,123,32,108,101,116,32,98,58,32,98,111,111,108,32,61,32,116,114,117,101,59,32,118,97,114,32,120,58,32,105,110,116,59]
def tIf (a:Bool):List UInt8:=if a then [105,102,32,98,32,123,32,120,32,61,32,49,59,32,125,32,101,108,115,101,32,123] else [105,102,32,98,32,123,32,112,114,105,110,116,32,49,59,32,125,32,101,108,115,101,32,123]
def tMid:List UInt8:=[120,32,61,32,50,59]
def tEnd:List UInt8:=[112,114,105,110,116,32,120,59,32,125]
def tS:List Bool->List UInt8
 |[]=>[]
 |a::l=>tIf a++32::tS l
def tC:Nat->List UInt8
 |0=>[]
 |n+1=>125::32::tC n
theorem tC_snoc (n:Nat)(r:List UInt8):tC (n+1)++r=tC n++125::32::r:=by
 induction n with
 |zero=>rfl
 |succ n ih=>
  show 125::32::(tC (n+1)++r)=125::32::(tC n++_)
  rw[ih]
theorem lx_piece {P:List UInt8}{ts us:List TS}{rest:List UInt8}(n:Nat)(h:lexF n P=some ts)(hx:Lx rest us):Lx (P++32::rest) (ts++us):=lexF_ok n P ts h rest us (lx_blank (by decide) hx)
def ifTs (a:Bool):List TS:=W wIf::Nm [98]::W [123]::(uS (act a)++[W [125],W wElse,W [123]])
theorem lex_if (a:Bool):lexF 100 (tIf a)=some (ifTs a):=by cases a<;>kernel_rfl
theorem lex_mid:lexF 100 tMid=some (uS (nest [])):=by kernel_rfl
theorem lex_hd:lexF 100 tHd=some ([W wFunc,Nm wMain,W [40],W [41],W [123]]++(uS sLet++uS sVar)):=by kernel_rfl
theorem lx_close {rest:List UInt8}{us:List TS}(h:Lx rest us):Lx (125::32::rest) (W [125]::us):=lx_piece (P:=[125]) (ts:=[W [125]]) 3 (by kernel_rfl) h
theorem lx_nest:∀(l:List Bool)(rest:List UInt8)(us:List TS),Lx rest us->Lx (tS l++(tMid++32::(tC l.length++rest))) (uS (nest l)++us)
 |[],rest,us,h=>lx_piece 100 lex_mid h
 |a::l,rest,us,h=>by
  have h1:=lx_nest l (125::32::rest) (W [125]::us) (lx_close h)
  have h2:=lx_piece 100 (lex_if a) h1
  have e1:tIf a++32::(tS l++(tMid++32::(tC l.length++125::32::rest)))=tS (a::l)++(tMid++32::(tC (a::l).length++rest)):=by
   rw[List.length_cons,tC_snoc]
   simp[tS]
  have e2:ifTs a++(uS (nest l)++W [125]::us)=uS (nest (a::l))++us:=by
   rw[uS_eq (nest (a::l))]
   simp[ifTs,nest,Unp.sO,Sm.k,Sm.es,Sm.bd,Sm.el,uB,x0,vb,uX_eq,Em,uO,E.k,E.nm]
  rw[e1,e2]at h2
  exact h2
def text (l:List Bool):List UInt8:=tHd++32::(tS l++(tMid++32::(tC l.length++tEnd)))
theorem lx_end:Lx tEnd (uS sPrint++[W [125],(0,[],0)]):=by
 have h0:Lx [125] [W [125],(0,[],0)]:=lx_tok (k:=0) (by decide) (by decide) (fun a=>⟨_,rfl,by kernel_rfl⟩) lx_nil
 exact lx_piece (P:=[112,114,105,110,116,32,120,59]) (ts:=uS sPrint) 100 (by kernel_rfl) h0
theorem lx_text (l:List Bool):Lx (text l) (uP (prog l)++[(0,[],0)]):=by
 have h:=lx_piece 100 lex_hd (lx_nest l tEnd _ lx_end)
 have e:([W wFunc,Nm wMain,W [40],W [41],W [123]]++(uS sLet++uS sVar))++(uS (nest l)++(uS sPrint++[W [125],(0,[],0)]))=uP (prog l)++[(0,[],0)]:=by
  simp[uP,prog,manyT,mainF,funT,parT,body,uB]
 rw[e]at h
 exact h
theorem len_text (l:List Bool)(h:l.length<=20):(text l).length<=6000:=by
 have h1:∀l:List Bool,(tS l).length<=40*l.length:=fun l=>by
  induction l with
  |nil=>simp[tS]
  |cons a l ih=>
   have:(tIf a).length<=30:=by cases a<;>decide
   simp only[tS,List.length_append,List.length_cons];omega
 have h2:∀n,(tC n).length=2*n:=fun n=>by
  induction n with
  |zero=>rfl
  |succ n ih=>simp only[tC,List.length_cons];omega
 have a1:tHd.length<=100:=by decide
 have a2:tMid.length<=100:=by decide
 have a3:tEnd.length<=100:=by decide
 have:=h1 l
 have:=h2 l.length
 simp only[text,List.length_append,List.length_cons];omega
theorem wf_nest:∀l:List Bool,WfS (nest l)
 |[]=>by simp[nest,WfS,esOk,Wfs,Em,Wf,kindsT,WfB]
 |a::l=>by
  have:=wf_nest l
  have h2:WfS (act a):=by cases a<;>simp[act,WfS,esOk,Wfs,Em,Wf,kindsT,WfB]
  simp[nest,WfS,esOk,Wfs,vb,Em,Wf,kindsT,WfB,this,h2]
theorem d_nest:∀l:List Bool,dS (nest l)<=l.length
 |[]=>by decide
 |a::l=>by
  have:=d_nest l
  have h2:dS (act a)=0:=by cases a<;>rfl
  have h0:d0 [vb]=0:=rfl
  rw[dS_eq]
  simp only[nest,Sm.k,Sm.es,Sm.bd,Sm.el,sD,Unp.dB,h2,h0,List.length_cons]
  simp
  omega
theorem wf_prog (l:List Bool):WfP (prog l):=by
 refine⟨by simp[prog],by simp[prog],by simp[prog],by simp[prog],by simp[prog],fun f hf=>?_⟩
 have:f=mainF l:=by simpa [prog] using hf
 subst this
 refine⟨by simp[mainF],by simp[mainF],by simp[mainF],fun _=>⟨rfl,rfl⟩,?_⟩
 have h:=wf_nest l
 simp[mainF,body,WfB,h,sLet,sVar,sPrint,WfS,esOk,Wfs,Em,Wf,kindsT]
theorem d_prog (l:List Bool)(h:l.length<=20):∀c∈(prog l).funcs,Unp.dB c.body+1<=50:=by
 intro f hf
 have:f=mainF l:=by simpa [prog] using hf
 subst this
 have h1:=d_nest l
 have a1:dS sLet=0:=rfl
 have a2:dS sVar=0:=rfl
 have a3:dS sPrint=0:=rfl
 simp only[mainF,body,Unp.dB,a1,a2,a3]
 omega
def H0:Hd:=⟨[],[],[],[⟨wMain,[],false,T0⟩]⟩
def V2:List Vd:=[⟨[98],tB⟩,⟨[120],tI⟩]
def cI (n:Int):E:=.mk 1 n [] [] 0 [] 0 tI 0
def cact (a:Bool):Sm:=if a then .mk 3 [120] [] 0 [cI 1] [] [] 0 1 else .mk 8 [] [] 0 [cI 1] [] [] 0 0
def cnest:List Bool->Sm
 |[]=>.mk 3 [120] [] 0 [cI 2] [] [] 0 1
 |a::l=>.mk 5 [] [] 0 [.mk 4 0 [98] [] 0 [] 0 tB 0] [cact a] [cnest l] 0 0
theorem ck_act (a:Bool):ckS H0 false T0 V2 (act a)=.ok (cact a,V2):=by cases a<;>rfl
theorem ck_nest:∀l:List Bool,ckS H0 false T0 V2 (nest l)=.ok (cnest l,V2)
 |[]=>rfl
 |a::l=>by
  have h1:=ck_nest l
  have h2:=ck_act a
  have hb:ckB H0 false T0 V2 [act a]=.ok ([cact a],V2):=by simp only[ckB,h2]
  have hc:ckB H0 false T0 V2 [nest l]=.ok ([cnest l],V2):=by simp only[ckB,h1]
  show ckS H0 false T0 V2 (.mk 5 [] [] 0 [vb] [act a] [nest l] 0 0)=_
  rw[ckS_mk]
  have e1:formT false 5 [vb]=true:=rfl
  have e2:declT H0 5 [] 0=some T0:=rfl
  have e3:esT H0 V2 5 [vb]=.ok [.mk 4 0 [98] [] 0 [] 0 tB 0]:=rfl
  have e4:fitT H0 T0 V2 5 [] [.mk 4 0 [98] [] 0 [] 0 tB 0] T0=some (0,V2):=rfl
  rw[if_pos e1,e2]
  simp only[e3,e4]
  simp only[if_true,hb,hc]
  rfl
def cLet:Sm:=.mk 2 [98] Unp.nBool 0 [.mk 2 1 [] [] 0 [] 0 tB 0] [] [] 0 0
def cVar:Sm:=.mk 1 [120] Unp.nInt 0 [] [] [] 0 1
def cPrint:Sm:=.mk 8 [] [] 0 [.mk 4 0 [120] [] 0 [] 0 tI 1] [] [] 0 0
theorem ck_body (l:List Bool):ckB H0 false T0 [] (body l)=.ok ([cLet,cVar,cnest l,cPrint],V2):=by
 have e1:ckS H0 false T0 [] sLet=.ok (cLet,[⟨[98],tB⟩]):=rfl
 have e2:ckS H0 false T0 [⟨[98],tB⟩] sVar=.ok (cVar,V2):=rfl
 have e4:ckS H0 false T0 V2 sPrint=.ok (cPrint,V2):=rfl
 unfold body
 simp only[ckB,e1,e2,ck_nest l,e4]
theorem su_nest:∀l:List Bool,surS [true,false] (cnest l)=([true,l.all id],none)
 |[]=>rfl
 |a::l=>by
  have h1:=su_nest l
  have h2:surS [true,false] (cact a)=([true,a],none):=by cases a<;>rfl
  have hb:surB [true,false] [cact a]=([true,a],none):=by rw[surB_cons,h2];rfl
  have hc:surB [true,false] [cnest l]=([true,l.all id],none):=by rw[surB_cons,h1];rfl
  rw[surS_eq]
  show (if (5:Int)=1 then _ else if (5:Int)=2\/(5:Int)=3 then _ else if (5:Int)=7 then _ else if (5:Int)=6 then _ else if (5:Int)=5 then (List.zipWith (fun a b=>a&&b) (surB [true,false] [cact a]).1 (surB [true,false] [cnest l]).1,orO (askL [true,false] [.mk 4 0 [98] [] 0 [] 0 tB 0]) (orO (surB [true,false] [cact a]).2 (surB [true,false] [cnest l]).2)) else _)=_
  rw[hb,hc]
  rfl
theorem su_body (l:List Bool):(surB [false,false] [cLet,cVar,cnest l,cPrint]).2.isNone=l.all id:=by
 have e1:surS [false,false] cLet=([true,false],none):=rfl
 have e2:surS [true,false] cVar=([true,false],none):=rfl
 rw[surB_cons,e1,surB_cons,e2,surB_cons,su_nest]
 cases l.all id<;>rfl
theorem of_er {p:Pg}{l:List Bool}(h:erG p=erG (prog l)):∃f,p=⟨[],[],[f]⟩/\f.name=wMain/\f.params=[]/\f.has=false/\f.on=[]/\f.od=0/\erB f.body=erB (body l):=by
 obtain⟨rs,gs,fs⟩:=p
 simp only[erG,prog,List.map_nil,List.map_cons,Pg.mk.injEq,List.map_eq_nil_iff]at h
 obtain⟨rfl,rfl,h⟩:=h
 cases fs with
 |nil=>simp at h
 |cons f r=>
  cases r with
  |cons g r=>simp at h
  |nil=>
   simp only[List.map_cons,List.map_nil,List.cons.injEq,and_true,erF,mainF,Fc.mk.injEq,List.map_eq_nil_iff]at h
   exact⟨f,rfl,h.1,h.2.1,h.2.2.1,h.2.2.2.1,h.2.2.2.2.1,h.2.2.2.2.2⟩
theorem sure_prog {p:Pg}{l:List Bool}(h:erG p=erG (prog l)):(sureO p).isNone=l.all id:=by
 obtain⟨f,rfl,h1,h2,h3,h4,h5,h6⟩:=of_er h
 obtain⟨nm,ps,has,on,od,bd,a⟩:=f
 simp only at h1 h2 h3 h4 h5 h6
 subst h1 h2 h3 h4 h5
 have hf:faultH (gdOf ⟨[],[],[⟨wMain,[],false,[],0,bd,a⟩]⟩)=none:=rfl
 have hh:hdOf ⟨[],[],[⟨wMain,[],false,[],0,bd,a⟩]⟩=H0:=rfl
 unfold sureO
 rw[hf,hh]
 simp only
 have hr:=ckF_rel (H:=H0) (ss:=H0.sigs) (fs:=[⟨wMain,[],false,[],0,bd,a⟩]) (gs:=[mainF l]) (by simp[mainF,h6])
 have hc:ckF H0 H0.sigs [mainF l]=.ok [⟨V2,[cLet,cVar,cnest l,cPrint],0⟩]:=by
  show ckF H0 [⟨wMain,[],false,T0⟩] [mainF l]=_
  unfold ckF
  simp only[mainF,ck_body]
  rfl
 rw[hc]at hr
 cases hx:ckF H0 H0.sigs [⟨wMain,[],false,[],0,bd,a⟩] with
 |error z=>rw[hx]at hr;exact hr.elim
 |ok bs=>
  rw[hx]at hr
  simp only
  rw[surF_same hr]
  show (orO (surB (su0 ⟨wMain,[],false,T0⟩ ⟨V2,[cLet,cVar,cnest l,cPrint],0⟩) [cLet,cVar,cnest l,cPrint]).2 (surF [] [])).isNone=_
  have e:su0 ⟨wMain,[],false,T0⟩ ⟨V2,[cLet,cVar,cnest l,cPrint],0⟩=[false,false]:=rfl
  rw[e,show surF [] []=none from rfl,orO_none]
  exact su_body l
end S9
namespace S9
open Ax Go Code9 V7 Par Chk K9 N7 U7 Unp Lx
def blRow (r:List AV):Bool:=match r with | [.bool _]=>true|_=>false
def dBl (r:List AV):Bool:=match r with | [.bool b]=>b|_=>false
theorem blRow_eq (r:List AV)(h:blRow r=true):r=[.bool (dBl r)]:=by
 unfold blRow at h
 split at h
 ·rfl
 ·cases h
theorem tS_take {l:List Bool}{k:Nat}(h:k<l.length):tS (l.take (k+1))=tS (l.take k)++(tIf l[k]++[32]):=by
 have:∀l m:List Bool,tS (l++m)=tS l++tS m:=fun l=>by
  induction l with
  |nil=>intro m;rfl
  |cons a l ih=>intro m;simp[tS,ih]
 rw[List.take_succ_eq_append_getElem h,this]
 rfl
theorem tC_take (k:Nat):tC (k+1)=tC k++[125,32]:=by
 have:=tC_snoc k []
 simpa using this
theorem tS_len:∀l:List Bool,(tS l).length<=40*l.length
 |[]=>by simp[tS]
 |a::l=>by
  have ih:=tS_len l
  have:(tIf a).length<=30:=by cases a<;>decide
  simp only[tS,List.length_append,List.length_cons];omega
theorem tC_len:∀n,(tC n).length=2*n
 |0=>rfl
 |n+1=>by
  have:=tC_len n
  simp only[tC,List.length_cons];omega
theorem law_branches (v:AV)(hz:isSz 1 v=true)(hb:(rowsL v).all blRow=true):(orcL S).call 0 0 4 [v] []=some (.bool true,[]):=by
 have hs:isSl v=true:=isSl_sz hz
 obtain⟨l,hl⟩:∃l:List Bool,rowsL v=l.map fun b=>[.bool b]:=⟨(rowsL v).map dBl,by
  rw[List.map_map]
  conv=>lhs;rw[<-List.map_id (rowsL v)]
  exact List.map_congr_left fun r hr=>blRow_eq r (List.all_eq_true.1 hb r hr)⟩
 have hp:v.isPure=true:=pure_sl hs
 refine call_pure (sf:=s4) rfl rfl (by simp[AV.allPure,hp]) rfl (by simp) ?_
 by_cases hn:20<l.length
 ·have hn':(20:Int)<(l.length:Int):=by omega
  simp[s4,hs,hl,hn']
 have hn':¬(20:Int)<(l.length:Int):=by omega
 simp[s4,hs,hl,hn']
 refine W_loopI s4_l0.eq_1 (fun k:Nat=>⟨[(0,.val v),(3,.val (.str (tS (l.take k)))),(4,.val (.str (tC k))),(5,.val (.bool ((l.take k).all id))),(6,.val (.int .i64 k))],[[],[]],[]⟩) (fun k=>k<=l.length) (fun k=>l.length-k) 0 (by simp[tS,tC]) (by simp) ?_
 intro k hk ih
 by_cases hlt:k<l.length
 ·have hw:IntKind.i64.wrap ((k:Int)+1)=((k+1:Nat):Int):=by rw[wrap64]<;>omega
  have h1:=tS_len (l.take k)
  have h2:=tC_len k
  rw[List.length_take]at h1
  have h3:(l.take (k+1)).all id=((l.take k).all id&&l[k]):=by
   rw[List.take_succ_eq_append_getElem hlt,List.all_append];simp
  have i1:=ih (k+1) (by omega) (by omega)
  rw[tS_take hlt,tC_take,h3]at i1
  have hg:∀h:k<(l.map fun b=>[AV.bool b]).length,(l.map fun b=>[AV.bool b])[k]=[.bool l[k]]:=fun h=>by simp
  generalize hS:tS (l.take k)=sk at *
  generalize hC:tC k=ck at *
  have c1:∀c,5000<=c->sk.length<=c:=fun c h=>by omega
  have c2:∀c,5000<=c->ck.length<=c:=fun c h=>by omega
  clear hS hC h1 h2
  generalize (l.take k).all id=ak at *
  cases hlk:l[k] with
  |true=>
   rw[hlk]at i1
   have q:tIf true=[105,102,32,98,32,123,32,120,32,61,32,49,59,32,125,32,101,108,115,101,32,123]:=rfl
   rw[q]at i1
   cases ak with
   |true=>
    simp[hlt,hw,hz,hs,hl,hlk,c1,c2]
    simp only[List.cons_append,List.nil_append,Bool.and_true]at i1
    exact i1
   |false=>
    simp[hlt,hw,hz,hs,hl,hlk,c1,c2]
    simp only[List.cons_append,List.nil_append,Bool.and_true]at i1
    exact i1
  |false=>
   rw[hlk]at i1
   have q:tIf false=[105,102,32,98,32,123,32,112,114,105,110,116,32,49,59,32,125,32,101,108,115,101,32,123]:=rfl
   rw[q]at i1
   cases ak with
   |true=>
    simp[hlt,hw,hz,hs,hl,hlk,c1,c2]
    simp only[List.cons_append,List.nil_append,Bool.and_false]at i1
    exact i1
   |false=>
    simp[hlt,hw,hz,hs,hl,hlk,c1,c2]
    simp only[List.cons_append,List.nil_append,Bool.and_false]at i1
    exact i1
 ·have hkl:k=l.length:=by omega
  subst hkl
  rw[List.take_length]
  have hl20:l.length<=20:=by omega
  obtain⟨p,ep1,ep2⟩:=text_prog (len_text l hl20) (lx_text l) (wf_prog l) (d_prog l hl20)
  have ep:=fun wl lim st=>prog_ok wl lim (text l) st
  have hF:=fine_progS (text l)
  rw[ep1]at ep hF
  have es:=fun wl lim st=>sure_fine hF wl lim st
  have hal:=sure_prog ep2
  have ek:=fun wl lim st=>call_any (S:=S) (f:=7) (sf:=s7) rfl rfl (args:=[]) rfl U2.known0 wl lim st
  have htx:text l=[102,117,110,99,32,109,97,105,110,40,41,32,123,32,108,101,116,32,98,58,32,98,111,111,108,32,61,32,116,114,117,101,59,32,118,97,114,32,120,58,32,105,110,116,59,32]++(tS l++([120,32,61,32,50,59,32]++(tC l.length++[112,114,105,110,116,32,120,59,32,125]))):=by
   simp[text,tHd,tMid,tEnd]
  rw[htx]at ep
  obtain⟨HB,hHB⟩:∃x:List UInt8,x=[102,117,110,99,32,109,97,105,110,40,41,32,123,32,108,101,116,32,98,58,32,98,111,111,108,32,61,32,116,114,117,101,59,32,118,97,114,32,120,58,32,105,110,116,59,32]:=⟨_,rfl⟩
  have hHl:HB.length=46:=by rw[hHB];rfl
  rw[<-hHB]at ep ⊢
  clear hHB
  have h1:=tS_len l
  have h2:=tC_len l.length
  have hpr:p.row=[lstV 3 (p.recs.map Rc.row),lstV 4 (p.globals.map PD.cells),lstV 7 (p.funcs.map Fc.row)]:=rfl
  rw[hpr]at ep es
  obtain⟨f1,r1,g1⟩:isSl (lstV 7 (p.funcs.map Fc.row))=true/\isSl (lstV 3 (p.recs.map Rc.row))=true/\isSl (lstV 4 (p.globals.map PD.cells))=true:=⟨isSl_lstV,isSl_lstV,isSl_lstV⟩
  obtain⟨f2,r2,g2⟩:(lstV 7 (p.funcs.map Fc.row)).view=lstV 7 (p.funcs.map Fc.row)/\(lstV 3 (p.recs.map Rc.row)).view=lstV 3 (p.recs.map Rc.row)/\(lstV 4 (p.globals.map PD.cells)).view=lstV 4 (p.globals.map PD.cells):=⟨view_lstV,view_lstV,view_lstV⟩
  generalize lstV 7 (p.funcs.map Fc.row)=PF at *
  generalize lstV 3 (p.recs.map Rc.row)=PR at *
  generalize lstV 4 (p.globals.map PD.cells)=PG at *
  have c1:∀c,5000<=c->(tS l).length<=c:=fun c h=>by omega
  have c2:∀d,5000<=d->(tS l).length+(tC l.length).length<=d:=fun d h=>by omega
  have c3:∀d,7000<=d->HB.length+(tS l).length<=d:=fun d h1=>by omega
  have c5:∀d,7000<=d->HB.length+((tS l).length+(7+(tC l.length).length))<=d:=fun d h1=>by omega
  have c6:∀d,7000<=d->HB.length+((tS l).length+7)+(tC l.length).length<=d:=fun d h1=>by omega
  have c7:∀d,7000<=d->HB.length+((tS l).length+((tC l.length).length+7))<=d:=fun d h1=>by omega
  clear hHl
  have c4:∀d,7000<=d->(tC l.length).length<=d:=fun d h1=>by omega
  have hall:(decide (cE (sureO p)=0))=l.all id:=by
   rw[<-hal]
   cases sureO p<;>rfl
  unfold fltV at es
  generalize tS l=sk at *
  generalize tC l.length=ck at *
  generalize l.all id=al at *
  simp only[List.cons_append,List.nil_append]at ep
  cases al with
  |true=>
   have hc:cE (sureO p)=0:=by simpa using hall
   simp[hs,hl,c3,c6,c7,ep,es,ek,f1,f2,r1,r2,g1,g2,paste,AV.view,hn',hc]
  |false=>
   have hc:¬cE (sureO p)=0:=by simpa using hall
   simp[hs,hl,c3,c6,c7,ep,es,ek,f1,f2,r1,r2,g1,g2,paste,AV.view,hn',hc]
end S9
