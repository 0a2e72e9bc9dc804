/-
  Programs in codes, as those who run see them.
-/
import Derived.Test.YtachcambnjecnaaGreatA6

namespace cA
open Ax Go
def gp:AV->Bool
 |.own _ _=>false
 |_=>true
theorem iL {v:AV}(h:gp v=true)(hs:aG v=true):v.view=v:=by cases v<;>simp_all [gp,aG,AV.view]
@[simp] theorem zl (v:AV):gp v.view=true:=by cases v<;>simp[gp,AV.view]
def eJ (sz:Nat)(p:List AV->Bool)(v:AV):Bool:=gp v&&cD sz v&&(aP v).all p
theorem gj {sz:Nat}{p:List AV->Bool}{v:AV}(h:eJ sz p v=true):cD sz v=true:=by simp only[eJ,Bool.and_eq_true]at h;exact h.1.2
theorem jB {sz:Nat}{p:List AV->Bool}{v:AV}(h:eJ sz p v=true):∀r∈aP v,p r=true:=by simp only[eJ,Bool.and_eq_true,List.all_eq_true]at h;exact h.2
theorem iE {sz:Nat}{p:List AV->Bool}{v:AV}(h:eJ sz p v=true):v.view=v:=by
 have h2:=iK (gj h)
 simp only[eJ,Bool.and_eq_true]at h
 exact iL h.1.1 h2
theorem jH {α:Type}{sz:Nat}{p:List AV->Bool}{d:List AV->α}{e:α->List AV}{v:AV}(h:eJ sz p v=true)(he:∀r,p r=true->r=e (d r)):aP v=((aP v).map d).map e:=by
 rw[List.map_map]
 conv=>lhs;rw[<-List.map_id (aP v)]
 exact List.map_congr_left λr hr=>he r (jB h r hr)
def nG (n:Int):Bool:=decide (-9223372036854775808<=n)&&decide (n<=9223372036854775807)
structure T3 where
 b:Int
 r:Int
 d:Int
 deriving DecidableEq
abbrev T0:T3:=⟨0,0,0⟩
@[simp] def T3.cells (t:T3):List AV:=[.int .i64 t.b,.int .i64 t.r,.int .i64 t.d]
def zm (r:List AV):Bool:=match r with | [.int .i64 a,.int .i64 b,.int .i64 c]=>nG a&&nG b&&nG c|_=>false
def dT (r:List AV):T3:=match r with | [.int .i64 a,.int .i64 b,.int .i64 c]=>⟨a,b,c⟩|_=>T0
theorem BX (r:List AV)(h:zm r=true):r=(dT r).cells:=by
 unfold zm at h
 split at h
 ·rfl
 ·cases h
def qZ (v:AV):Bool:=eJ 3 zm v
def dg (v:AV):List T3:=(aP v).map dT
theorem iM {v:AV}(h:qZ v=true):aP v=(dg v).map T3.cells:=jH h BX
theorem nt {v:AV}(h:qZ v=true):v.view=v:=iE h
@[simp] theorem Qp (v:AV):dg v.view=dg v:=by simp[dg]
@[simp] theorem JD {v:AV} (h:qZ v=true):cD 3 v=true:=gj h
@[simp] theorem mQ {v:AV} (h:qZ v=true):aG v=true:=iK (JD h)
structure FD where
 name:List UInt8
 t:T3
def FD.cells (f:FD):List AV:=[.str f.name,.int .i64 f.t.b,.int .i64 f.t.r,.int .i64 f.t.d]
def RJ (r:List AV):Bool:=match r with | [.str _,.int .i64 a,.int .i64 b,.int .i64 c]=>nG a&&nG b&&nG c|_=>false
def dF (r:List AV):FD:=match r with | [.str s,.int .i64 a,.int .i64 b,.int .i64 c]=>⟨s,a,b,c⟩|_=>⟨[],T0⟩
theorem RK (r:List AV)(h:RJ r=true):r=(dF r).cells:=by
 unfold RJ at h
 split at h
 ·rfl
 ·cases h
def J8 (v:AV):Bool:=eJ 4 RJ v
def x0 (v:AV):List FD:=(aP v).map dF
theorem FK {v:AV}(h:J8 v=true):aP v=(x0 v).map FD.cells:=jH h RK
theorem Lw {v:AV}(h:J8 v=true):v.view=v:=iE h
@[simp] theorem ad0 (v:AV):x0 v.view=x0 v:=by simp[x0]
@[simp] theorem ZE {v:AV} (h:J8 v=true):cD 4 v=true:=gj h
@[simp] theorem RL {v:AV} (h:J8 v=true):aG v=true:=iK (ZE h)
structure RD where
 name:List UInt8
 fields:AV
def RD.cells (r:RD):List AV:=[.str r.name,r.fields]
def Lx (r:List AV):Bool:=match r with | [.str _,f]=>J8 f|_=>false
def dR (r:List AV):RD:=match r with | [.str s,f]=>⟨s,f⟩|_=>⟨[],.U⟩
theorem RM (r:List AV)(h:Lx r=true):r=(dR r).cells:=by
 unfold Lx at h
 split at h
 ·rfl
 ·cases h
def Nk (v:AV):Bool:=eJ 2 Lx v
def oJ (v:AV):List RD:=(aP v).map dR
theorem vh {v:AV}(h:Nk v=true):aP v=(oJ v).map RD.cells:=jH h RM
theorem It {v:AV}(h:Nk v=true):∀r∈oJ v,J8 r.fields=true:=by
 intro r hr
 obtain⟨x,hx,rfl⟩:=List.mem_map.1 hr
 have:=jB h x hx
 unfold Lx at this
 unfold dR
 split at this
 ·exact this
 ·cases this
theorem Ly {v:AV}(h:Nk v=true):v.view=v:=iE h
@[simp] theorem ad1 (v:AV):oJ v.view=oJ v:=by simp[oJ]
@[simp] theorem ZF {v:AV} (h:Nk v=true):cD 2 v=true:=gj h
@[simp] theorem FL {v:AV} (h:Nk v=true):aG v=true:=iK (ZF h)
structure ID where
 op:Int
 a:Int
 b:Int
 c:Int
 n:Int
 args:AV
def ID.cells (i:ID):List AV:=[.int .i64 i.op,.int .i64 i.a,.int .i64 i.b,.int .i64 i.c,.int .i64 i.n,i.args]
def Lz (r:List AV):Bool:=match r with | [.int .i64 a,.int .i64 b,.int .i64 c,.int .i64 d,.int .i64 e,v]=>gp v&&th v|_=>false
def dN (r:List AV):ID:=match r with | [.int .i64 a,.int .i64 b,.int .i64 c,.int .i64 d,.int .i64 e,v]=>⟨a,b,c,d,e,v⟩|_=>⟨0,0,0,0,0,.U⟩
theorem RN (r:List AV)(h:Lz r=true):r=(dN r).cells:=by
 unfold Lz at h
 split at h
 ·rfl
 ·cases h
def zY (v:AV):Bool:=eJ 6 Lz v
def mF (v:AV):List ID:=(aP v).map dN
theorem vk {v:AV}(h:zY v=true):aP v=(mF v).map ID.cells:=jH h RN
theorem RO {v:AV}(h:zY v=true):∀r∈mF v,gp r.args=true/\th r.args=true:=by
 intro r hr
 obtain⟨x,hx,rfl⟩:=List.mem_map.1 hr
 have:=jB h x hx
 unfold Lz at this
 unfold dN
 split at this
 ·simp only[Bool.and_eq_true]at this;exact⟨this.1,this.2⟩
 ·cases this
theorem sP {v:AV}(h:zY v=true):v.view=v:=iE h
@[simp] theorem ad2 (v:AV):mF v.view=mF v:=by simp[mF]
@[simp] theorem ZG {v:AV} (h:zY v=true):cD 6 v=true:=gj h
@[simp] theorem uz {v:AV} (h:zY v=true):aG v=true:=iK (ZG h)
structure CD where
 params:Int
 vars:AV
 has:Bool
 res:T3
 ins:AV
def CD.cells (c:CD):List AV:=[.int .i64 c.params,c.vars,.bool c.has,.int .i64 c.res.b,.int .i64 c.res.r,.int .i64 c.res.d,c.ins]
def LA (r:List AV):Bool:=match r with | [.int .i64 p,v,.bool _,.int .i64 a,.int .i64 b,.int .i64 c,i]=>nG p&&nG a&&nG b&&nG c&&qZ v&&zY i|_=>false
def dC (r:List AV):CD:=match r with | [.int .i64 p,v,.bool h,.int .i64 a,.int .i64 b,.int .i64 c,i]=>⟨p,v,h,⟨a,b,c⟩,i⟩|_=>⟨0,.U,false,T0,.U⟩
theorem RP (r:List AV)(h:LA r=true):r=(dC r).cells:=by
 unfold LA at h
 split at h
 ·rfl
 ·cases h
def Nl (v:AV):Bool:=eJ 7 LA v
def jL (v:AV):List CD:=(aP v).map dC
theorem bh {v:AV}(h:Nl v=true):aP v=(jL v).map CD.cells:=jH h RP
theorem uA {v:AV}(h:Nl v=true):∀r∈jL v,qZ r.vars=true/\zY r.ins=true:=by
 intro r hr
 obtain⟨x,hx,rfl⟩:=List.mem_map.1 hr
 have:=jB h x hx
 unfold LA at this
 unfold dC
 split at this
 ·simp only[Bool.and_eq_true]at this;exact⟨this.1.2,this.2⟩
 ·cases this
theorem LD {v:AV}(h:Nl v=true):v.view=v:=iE h
@[simp] theorem ad3 (v:AV):jL v.view=jL v:=by simp[jL]
@[simp] theorem ZH {v:AV} (h:Nl v=true):cD 7 v=true:=gj h
@[simp] theorem FM {v:AV} (h:Nl v=true):aG v=true:=iK (ZH h)
structure SD where
 fn:Int
 t:T3
def SD.cells (s:SD):List AV:=[.int .i64 s.fn,.int .i64 s.t.b,.int .i64 s.t.r,.int .i64 s.t.d]
def RR (r:List AV):Bool:=match r with | [.int .i64 f,.int .i64 a,.int .i64 b,.int .i64 c]=>nG f&&nG a&&nG b&&nG c|_=>false
def dS (r:List AV):SD:=match r with | [.int .i64 f,.int .i64 a,.int .i64 b,.int .i64 c]=>⟨f,a,b,c⟩|_=>⟨0,T0⟩
theorem RU (r:List AV)(h:RR r=true):r=(dS r).cells:=by
 unfold RR at h
 split at h
 ·rfl
 ·cases h
def RW (v:AV):Bool:=eJ 4 RR v
def vm (v:AV):List SD:=(aP v).map dS
theorem Az {v:AV}(h:RW v=true):aP v=(vm v).map SD.cells:=jH h RU
theorem LF {v:AV}(h:RW v=true):v.view=v:=iE h
@[simp] theorem ad4 (v:AV):vm v.view=vm v:=by simp[vm]
@[simp] theorem ZI {v:AV} (h:RW v=true):cD 4 v=true:=gj h
@[simp] theorem FO {v:AV} (h:RW v=true):aG v=true:=iK (ZI h)
structure XD where
 aQ:AV
 globals:AV
 aR:AV
 sites:AV
 main:Int
def XD.cells (x:XD):List AV:=[x.aQ,x.globals,x.aR,x.sites,.int .i64 x.main]
structure XD.ok (x:XD):Prop where
 aQ:Nk x.aQ=true
 globals:qZ x.globals=true
 aR:Nl x.aR=true
 sites:RW x.sites=true
theorem ad5 {v:AV}(h:qZ v=true):∀t∈dg v,nG t.b=true/\nG t.r=true/\nG t.d=true:=by
 intro r hr
 obtain⟨x,hx,rfl⟩:=List.mem_map.1 hr
 have:=jB h x hx
 unfold zm at this
 unfold dT
 split at this
 ·simp only[Bool.and_eq_true]at this;exact⟨this.1.1,this.1.2,this.2⟩
 ·cases this
def iy (vars:List T3)(n:Int):T3:=if 0<=n then vars.getD n.toNat T0 else T0
def kT (vars:List T3)(t:T3)(l:List Int):Bool:=l.all (λn=>decide (iy vars n=t))&&decide (t≠T0)
def De:T3:=⟨1,0,0⟩
def CA:T3:=⟨2,0,0⟩
end cA
