/- Parts of the proof: contracts and plain laws. -/
import Derived.Test.YthlnaldahkgjnaaGreatDoorV20
namespace Go.Proofs.YthlnaldahkgjnaaGreatDoor
open Go Go.RowKit Go.ChangeShapes Go.WideShapes Go.Deep
set_option linter.unusedVariables false
set_option linter.unusedSimpArgs false
set_option maxRecDepth 100000
set_option maxHeartbeats 16000000
def flatC (l:List Fc):List Value:=(l.map cellsC).flatten
def RFcs (w:World) (v:Value) (l:List Fc):Prop:=RSl w 6 v l.length (flatC l)
theorem RFcs.ext {w w':World} {v:Value} {l:List Fc} (h:RFcs w v l) (hx:Ext w w'):RFcs w' v l:=RSl.ext h hx
theorem RFcs.form {w:World} {v:Value} {l:List Fc} (h:RFcs w v l):∃A c,v= .slice A l.length c∧l.length≤c∧c≤maxLen:=by
 obtain ⟨_,A,c,e,h1,h2,_⟩:=h
 exact ⟨A,c,e,h1,h2⟩
structure AtFc (w:World) (q:Addr) (x:Fc):Prop where
 c0:w.cell? q=some x.p
 c1:w.cell? ⟨q.block,q.off+1,none⟩=some (.string x.f.id)
 c2:w.cell? ⟨q.block,q.off+2,none⟩=some (.string x.f.title)
 c3:w.cell? ⟨q.block,q.off+3,none⟩=some (.string x.f.link)
 c4:w.cell? ⟨q.block,q.off+4,none⟩=some (.int .i64 x.f.upd)
 c5:w.cell? ⟨q.block,q.off+5,none⟩=some x.es
theorem RFcs.at {w:World} {v:Value} {l:List Fc} (h:RFcs w v l) {k:Nat} (hk:k<l.length):∃ad c,v= .slice (some ad) l.length c∧AtFc w (ad.add (k*6)) l[k]:=by
 obtain ⟨ad,c,e,hc⟩:=RSl.elem (k:=6) (css:=l.map cellsC) h (by decide) (by intro c hc;obtain ⟨x,_,rfl⟩:=List.mem_map.1 hc;rfl) k (cellsC l[k]) (by rw[List.getElem?_map,List.getElem?_eq_getElem hk];rfl)
 rw[Nat.mul_comm] at hc
 have hadd:∀i,0<i→(ad.add (k*6)).add i=⟨(ad.add (k*6)).block,(ad.add (k*6)).off+i,none⟩:=fun i hi=>if_neg (by omega)
 refine ⟨ad,c,e,?_,?_,?_,?_,?_,?_⟩
 ·have:=hc 0 _ rfl;rwa [add_zero] at this
 ·have:=hc 1 _ rfl;rwa [hadd _ (by decide)] at this
 ·have:=hc 2 _ rfl;rwa [hadd _ (by decide)] at this
 ·have:=hc 3 _ rfl;rwa [hadd _ (by decide)] at this
 ·have:=hc 4 _ rfl;rwa [hadd _ (by decide)] at this
 ·have:=hc 5 _ rfl;rwa [hadd _ (by decide)] at this
def ewide (e:Ent):Prop:=i64ok e.upd∧e.id.size≤reachBytes∧e.title.size≤reachBytes∧e.link.size≤reachBytes∧e.content.size≤reachBytes
def fwide (f:Fd):Prop:=i64ok f.upd∧f.path.length≤reachBytes∧(∀s∈f.path,s.size≤reachBytes)∧f.id.size≤reachBytes∧f.title.size≤reachBytes∧f.link.size≤reachBytes∧f.ents.length≤reachBytes∧∀e∈f.ents,ewide e
def capN (n:Nat):Nat:=1+min n 9000
def bigE (e:Ent):Nat:=capN (e.id.size+e.title.size+e.link.size+e.content.size)
def bigP (l:List ByteArray):Nat:=(l.map fun s=>capN s.size).sum
def bigEs (l:List Ent):Nat:=(l.map bigE).sum
def bigH (f:Fd):Nat:=capN (f.id.size+f.title.size+f.link.size)
def bigF (f:Fd):Nat:=bigH f+bigP f.path+bigEs f.ents
def bigL (l:List Fd):Nat:=(l.map bigF).sum
theorem mem_sum {l:List Nat} {n:Nat} (h:n∈l):n≤l.sum:=by
 induction l with
 |nil=>simp at h
 |cons x t ih=>
  rw[List.sum_cons]
  rcases List.mem_cons.1 h with h|h
  ·omega
  ·have:=ih h;omega
theorem bigP_small:∀{l:List ByteArray},bigP l≤5000→l.length+sizes l≤bigP l
 | [],_=>by simp[sizes,bigP]
 |s::t,h=>by
  have e:bigP (s::t)=capN s.size+bigP t:=by unfold bigP;simp
  have e2:sizes (s::t)=s.size+sizes t:=by unfold sizes;simp
  rw[e] at h⊢
  have ih:=bigP_small (l:=t) (by omega)
  unfold capN at h⊢
  rw[e2,List.length_cons]
  omega
theorem bigEs_len:∀(l:List Ent),l.length≤bigEs l
 | []=>by simp
 |s::t=>by
  have e:bigEs (s::t)=bigE s+bigEs t:=by unfold bigEs;simp
  have ih:=bigEs_len t
  rw[e,List.length_cons]
  unfold bigE capN
  omega
theorem bigE_mem {l:List Ent} {e:Ent} (h:e∈l):bigE e≤bigEs l:=mem_sum (List.mem_map.2 ⟨e,h,rfl⟩)
theorem bigE_small {e:Ent} (h:bigE e≤5000):e.id.size+e.title.size+e.link.size+e.content.size≤5000:=by
 unfold bigE capN at h
 omega
theorem small_eok {e:Ent} (hw:i64ok e.upd) (h:bigE e≤5000):eok e:=⟨hw,by have:=bigE_small h;omega⟩
theorem small_fok {f:Fd} (hw:fwide f) (h:bigF f≤5000):fokS f:=by
 have h':bigH f+bigP f.path+bigEs f.ents≤5000:=h
 have hp:=bigP_small (l:=f.path) (by omega)
 have hh:bigH f≤5000:=by omega
 unfold bigH capN at hh
 have he:=bigEs_len f.ents
 refine ⟨⟨hw.1,by omega⟩,by omega,fun e hm=>small_eok (hw.2.2.2.2.2.2.2 e hm).1 ?_⟩
 have:=bigE_mem hm
 omega
theorem bigL_take {l:List Fc} {k:Nat} (hk:k<l.length):bigL ((l.take (k+1)).map Fc.f)=bigL ((l.take k).map Fc.f)+bigF l[k].f:=by
 rw[List.take_succ_eq_append_getElem hk]
 unfold bigL
 simp only[List.map_append,List.sum_append,List.map_cons,List.map_nil,List.sum_cons,List.sum_nil,Nat.add_zero]
theorem bigL_le (l:List Fc) (k:Nat):bigL ((l.take k).map Fc.f)≤bigL (l.map Fc.f):=by
 have e:bigL (l.map Fc.f)=bigL ((l.take k).map Fc.f)+bigL ((l.drop k).map Fc.f):=by
  unfold bigL
  rw[←List.sum_append,←List.map_append,←List.map_append,List.take_append_drop]
 omega
theorem bigP_take {l:List ByteArray} {k:Nat} (hk:k<l.length):bigP (l.take (k+1))=bigP (l.take k)+capN l[k].size:=by
 rw[List.take_succ_eq_append_getElem hk]
 unfold bigP
 simp only[List.map_append,List.sum_append,List.map_cons,List.map_nil,List.sum_cons,List.sum_nil,Nat.add_zero]
theorem bigEs_take {l:List Ent} {k:Nat} (hk:k<l.length):bigEs (l.take (k+1))=bigEs (l.take k)+bigE l[k]:=by
 rw[List.take_succ_eq_append_getElem hk]
 unfold bigEs
 simp only[List.map_append,List.sum_append,List.map_cons,List.map_nil,List.sum_cons,List.sum_nil,Nat.add_zero]
theorem bigEs_le (l:List Ent) (k:Nat):bigEs (l.take k)≤bigEs l:=by
 have e:bigEs l=bigEs (l.take k)+bigEs (l.drop k):=by
  unfold bigEs
  rw[←List.sum_append,←List.map_append,List.take_append_drop]
 omega
theorem capN_le (n:Nat):capN n≤9001:=by unfold capN;omega
theorem wrap2 {a b:Nat} (h1:a≤140737488351232) (h2:b≤140737488351232):wrap64 ((a:Int)+(b:Int))=(a:Int)+(b:Int):=wrap_ok _ ⟨by omega,by omega⟩
theorem wrap3 {a b c:Nat} (h1:a≤140737488351232) (h2:b≤140737488351232) (h3:c≤140737488351232):wrap64 ((a:Int)+(b:Int)+(c:Int))=(a:Int)+(b:Int)+(c:Int):=wrap_ok _ ⟨by omega,by omega⟩
theorem wrap4 {a b c d:Nat} (h1:a≤140737488351232) (h2:b≤140737488351232) (h3:c≤140737488351232) (h4:d≤140737488351232):wrap64 ((a:Int)+(b:Int)+(c:Int)+(d:Int))=(a:Int)+(b:Int)+(c:Int)+(d:Int):=wrap_ok _ ⟨by omega,by omega⟩
theorem wrapS {a:Nat} (h:a≤1000000000000000):wrap64 (a:Int)=(a:Int):=wrap_ok _ ⟨by omega,by omega⟩
theorem wrapM {M:Int} (h1:0≤M) (h2:M≤9000):wrap64 (1+M)=1+M:=wrap_ok _ ⟨by omega,by omega⟩
theorem wrapQ {q:Nat} {M:Int} (h:q≤2000000000000000000) (h1:0≤M) (h2:M≤9000):wrap64 ((q:Int)+(1+M))=(q:Int)+(1+M):=wrap_ok _ ⟨by omega,by omega⟩
theorem tooLarge_any (v:Value) (l:List Fc) (w:World) (hr:RFcs w v l) (hrd:∀x∈l,RdC w x) (hn:l.length≤reachBytes) (hk:∀x∈l,fwide x.f):
 Calls Tryz.prog 47 #[.agg #[v]] w fun e w'=>e= .returned (.int .i64 (if 5000<bigL (l.map Fc.f) then 1 else 0))∧Ext w w':=by
 obtain ⟨A,c,rfl,hlc,hcm⟩:=hr.form
 have HK:=gd hk
 have HRD:=gd hrd
 obtain ⟨R,hR⟩:∃R:Int,(if 5000<bigL (l.map Fc.f) then 1 else 0)=R:=⟨_,rfl⟩
 rw[hR]
 have HR:=gd hR
 unfold reachBytes at hn
 clear hlc hcm hk hrd hR
 go_enter Tryz.func47,Tryz.ntmps47
 go_wp2
 go_loopw [3,13] (fun u i wr=>∃(k n:Nat),k≤l.length∧i= .int .i64 k∧u= .int .i64 n∧n≤5000∧Hid (n=bigL ((l.take k).map Fc.f))∧Ext w wr) (fun _ i _=>l.length - (intOf i).toNat)
 case atStart=>exact ⟨0,0,Nat.zero_le _,rfl,rfl,by decide,gd rfl,(Ext.refl _).alloc _⟩
 case round=>
  obtain ⟨k,n,hk,rfl,rfl,hn5,hnk,hx⟩:=hrel
  by_cases hlt:k<l.length
  ·obtain ⟨ad,c',hv,hat⟩:=(hr.ext hx).at hlt
   injection hv with hv1 hv2 hv3
   subst hv1
   clear hv2 hv3
   have hmem:l[k]∈l:=List.getElem_mem hlt
   have hrx:=(HRD.out _ hmem).ext hx
   have hkx:=HK.out _ hmem
   have htk:=bigL_take hlt
   rw[←hnk.out] at htk
   have hle:=bigL_le l (k+1)
   obtain ⟨x,hxx⟩:∃x,l[k]=x:=⟨_,rfl⟩
   rw[hxx] at hat hrx hkx htk
   have HTK:=gd htk
   have HLE:=gd hle
   clear hxx htk hle hmem hnk
   obtain ⟨k1,k2,k3,k4,k5,k6,k7,k8⟩:=hkx
   unfold reachBytes at k2 k4 k5 k6 k7
   have HK3:=gd k3
   have HK8:=gd k8
   obtain ⟨xp,xes,⟨xpath,xid,xtitle,xlink,xupd,xents⟩⟩:=x
   obtain ⟨hx0,hx1⟩:=hrx
   dsimp only at*
   obtain ⟨xA,xc,rfl, -, -⟩:=hx0.form
   obtain ⟨xB,xd,rfl, -, -⟩:=hx1.form
   have HX0:=gd hx0
   have HX1:=gd hx1
   have HX:=gd hx
   obtain ⟨a0,a1,a2,a3,a4,a5⟩:=hat
   dsimp only at a0 a1 a2 a3 a4 a5
   have hi0':(0:Int)≤(k:Int):=by omega
   have hi1:(k:Int)<(l.length:Int):=by omega
   have hw1:wrap64 ((xid.size:Int)+(xtitle.size:Int))=(xid.size:Int)+(xtitle.size:Int):=wrap2 k4 k5
   have hw2:wrap64 ((xid.size:Int)+(xtitle.size:Int)+(xlink.size:Int))=(xid.size:Int)+(xtitle.size:Int)+(xlink.size:Int):=wrap3 k4 k5 k6
   clear k1 k3 k8 hx0 hx1
   obtain ⟨S0,hS0⟩:∃S0,xid.size+xtitle.size+xlink.size=S0:=⟨_,rfl⟩
   have HS0:=gd hS0
   have hS0i:(xid.size:Int)+(xtitle.size:Int)+(xlink.size:Int)=(S0:Int):=by omega
   obtain ⟨wB,hwB⟩:∃wB:World,wB=wr:=⟨_,rfl⟩
   subst hwB
   have hxB:Ext w (wB.alloc (.cells #[.slice xA xpath.length xc,.string xid,.string xtitle,.string xlink,.int .i64 xupd,.slice xB xents.length xd] 32)):=hx.alloc _
   have HXB:=gd hxB
   have HB5:Hid (∀w',Ext (wB.alloc (.cells #[.slice xA xpath.length xc,.string xid,.string xtitle,.string xlink,.int .i64 xupd,.slice xB xents.length xd] 32)) w'→w'.cell? ⟨wB.heap.size,5,none⟩=some (.slice xB xents.length xd)):=gd fun w' h=>h.boxed 5 _ rfl
   clear hxB
   go_wp2
   clear hw1 hw2 a0 a1 a2 a3 a4 a5
   go_loopw [3,35] (fun u i wr=>∃(j m:Nat),j≤xpath.length∧i= .int .i64 j∧u= .int .i64 m∧m≤14001+9001*j∧Hid (m=n+capN S0+bigP (xpath.take j))∧Ext (wB.alloc (.cells #[.slice xA xpath.length xc,.string xid,.string xtitle,.string xlink,.int .i64 xupd,.slice xB xents.length xd] 32)) wr) (fun _ i _=>xpath.length - (intOf i).toNat)
   case atStart=>exact ⟨0,n+capN S0,Nat.zero_le _,rfl,congrArg (Value.int .i64) (by unfold capN;omega),by have:=capN_le S0;omega,gd rfl,Ext.refl _⟩
   case round=>
    obtain ⟨j,m,hj,rfl,rfl,hmb,hme,hxj⟩:=hrel
    by_cases hjl:j<xpath.length
    ·obtain ⟨ae,c2,e2,hc⟩:=((HX0.out.ext ((Ext.refl _).alloc _)).ext hxj).at hjl
     injection e2 with e2 e2' e2''
     subst e2
     clear e2' e2''
     have hsz:=HK3.out _ (List.getElem_mem hjl)
     unfold reachBytes at hsz
     have htk:=bigP_take hjl
     obtain ⟨s,hs⟩:∃s,xpath[j]=s:=⟨_,rfl⟩
     rw[hs] at hc hsz htk
     have HTP:=gd htk
     have hi0':(0:Int)≤(j:Int):=by omega
     have hi1:(j:Int)<(xpath.length:Int):=by omega
     clear hs htk
     go_wp2
     go_roundw
     case rel=>exact ⟨j+1,m+capN s.size,hjl,by go_num,congrArg (Value.int .i64) (by unfold capN;omega),by have:=capN_le s.size;omega,gd (by have:=hme.out;have:=HTP.out;omega),hxj⟩
     case measure=>simp[intOf];omega
    ·have hje:j=xpath.length:=by omega
     subst hje
     rw[List.take_of_length_le (Nat.le_refl _)] at hme
     have b5:=HB5.out _ hxj
     obtain ⟨wC,hwC⟩:∃wC:World,wC=wr:=⟨_,rfl⟩
     subst hwC
     have HXJ:=gd hxj
     go_wp2
     go_loopw [3,49] (fun u i wr=>∃(j q:Nat),j≤xents.length∧i= .int .i64 j∧u= .int .i64 q∧q≤14001+9001*xpath.length∧Hid (q=m+bigEs (xents.take j))∧Ext wC wr) (fun _ i _=>xents.length - (intOf i).toNat)
     case atStart=>exact ⟨0,m,Nat.zero_le _,rfl,rfl,by omega,gd rfl,Ext.refl _⟩
     case round=>
      obtain ⟨j,q,hj2,rfl,rfl,hqb,hqe,hxq⟩:=hrel
      by_cases hjl2:j<xents.length
      ·obtain ⟨ae,c2,e2,hat⟩:=(((HX1.out.ext ((Ext.refl _).alloc _)).ext HXJ.out).ext hxq).at hjl2
       injection e2 with e2 e2' e2''
       subst e2
       clear e2' e2''
       have hsz:=HK8.out _ (List.getElem_mem hjl2)
       have htk:=bigEs_take hjl2
       have hle2:=bigEs_le xents (j+1)
       obtain ⟨e,he⟩:∃e,xents[j]=e:=⟨_,rfl⟩
       rw[he] at hat hsz htk
       have HTE:=gd htk
       have HLE2:=gd hle2
       clear he htk hle2
       obtain ⟨eid,etitle,elink,econtent,eupd⟩:=e
       obtain ⟨_,g1,g2,g3,g4⟩:=hsz
       unfold reachBytes at g1 g2 g3 g4
       obtain ⟨p0,p1,p2,p3,p4⟩:=hat
       dsimp only at g1 g2 g3 g4 p0 p1 p2 p3 p4
       have hi0':(0:Int)≤(j:Int):=by omega
       have hi1:(j:Int)<(xents.length:Int):=by omega
       obtain ⟨S1,hS1⟩:∃S1,eid.size+etitle.size+elink.size+econtent.size=S1:=⟨_,rfl⟩
       have hE:bigE ⟨eid,etitle,elink,econtent,eupd⟩=capN S1:=by rw[←hS1];rfl
       have hS1i:(eid.size:Int)+(etitle.size:Int)+(elink.size:Int)+(econtent.size:Int)=(S1:Int):=by omega
       have hq63:q≤2000000000000000000:=by omega
       have HJ2:=gd hjl2
       have hj15:j≤1000000000000000:=by omega
       by_cases hbig:5000<q+capN S1
       ·have hbi:(5000:Int)<(q:Int)+(1+min (S1:Int) 9000):=by unfold capN at hbig;omega
        have hR1:R=1:=by
         rw[←HR.out,if_pos]
         have h1:=HTK.out
         have h2:=HLE.out
         have h3:=hqe.out
         have h4:=hme.out
         have h5:=HTE.out
         have h6:=HLE2.out
         rw[hE] at h5
         have h7:bigF ⟨xpath,xid,xtitle,xlink,xupd,xents⟩=capN S0+bigP xpath+bigEs xents:=by
          unfold bigF bigH
          rw[←HS0.out]
         omega
        subst hR1
        obtain ⟨M,hM⟩:∃M:Int,min (S1:Int) 9000=M:=⟨_,rfl⟩
        have hM1:0≤M:=by omega
        have hM2:M≤9000:=by omega
        rw[hM] at hbi
        have HM:=gd hM
        have hS1b:S1≤1000000000000000:=by omega
        have hwS:=congrArg (Value.int .i64) (wrapS hS1b)
        have hwM:=congrArg (Value.int .i64) (wrapM hM1 hM2)
        have hwQ:=congrArg (Value.int .i64) (wrapQ hq63 hM1 hM2)
        clear hbig hE hS1 hS1b
        have hw1:=congrArg (Value.int .i64) (wrap2 g1 g2)
        have hw2:=congrArg (Value.int .i64) (wrap3 g1 g2 g3)
        have hw3:=congrArg (Value.int .i64) (wrap4 g1 g2 g3 g4)
        clear g1 g2 g3 g4 k2 k4 k5 k6 k7 hn hS0 hS0i hmb hqb hn5 hj2 hjl2 hjl hj hk hlt
        go_wp2
        go_ret
        exact ⟨rfl,(HXB.out.trans HXJ.out).trans (hxq.alloc _)⟩
       ·have hbi:¬(5000:Int)<(q:Int)+(1+min (S1:Int) 9000):=by unfold capN at hbig;omega
        have HBG:=gd hbig
        have HEE:=gd hE
        obtain ⟨M,hM⟩:∃M:Int,min (S1:Int) 9000=M:=⟨_,rfl⟩
        have hM1:0≤M:=by omega
        have hM2:M≤9000:=by omega
        rw[hM] at hbi
        have HM:=gd hM
        have hS1b:S1≤1000000000000000:=by omega
        have hwS:=congrArg (Value.int .i64) (wrapS hS1b)
        have hwM:=congrArg (Value.int .i64) (wrapM hM1 hM2)
        have hwQ:=congrArg (Value.int .i64) (wrapQ hq63 hM1 hM2)
        clear hbig hE hS1 hS1b
        have hw1:=congrArg (Value.int .i64) (wrap2 g1 g2)
        have hw2:=congrArg (Value.int .i64) (wrap3 g1 g2 g3)
        have hw3:=congrArg (Value.int .i64) (wrap4 g1 g2 g3 g4)
        clear g1 g2 g3 g4 k2 k4 k5 k6 k7 hn hS0 hS0i hmb hqb hn5 hj2 hjl2 hjl hj hk hlt
        go_wp2
        clear hw1 hw2 hw3 hwS hwM hwQ
        go_roundw
        case rel=>
         refine ⟨j+1,q+capN S1,HJ2.out,by go_num,congrArg (Value.int .i64) (by have:=HM.out;unfold capN;omega),by have:=HBG.out;omega,gd ?_,hxq.alloc _⟩
         have h3:=hqe.out
         have h5:=HTE.out
         rw[HEE.out] at h5
         omega
        case measure=>simp[intOf];have:=HJ2.out;omega
      ·have hje2:j=xents.length:=by omega
       subst hje2
       rw[List.take_of_length_le (Nat.le_refl _)] at hqe
       have h7:bigF ⟨xpath,xid,xtitle,xlink,xupd,xents⟩=capN S0+bigP xpath+bigEs xents:=by
        unfold bigF bigH
        rw[←HS0.out]
       have hq:q=bigL ((l.take (k+1)).map Fc.f):=by
        have h1:=HTK.out
        have h3:=hqe.out
        have h4:=hme.out
        rw[h7] at h1
        omega
       have HQ:=gd hq
       have hxa:=(HXB.out.trans HXJ.out).trans hxq
       clear hq h7 hqe
       by_cases hbig:5000<q
       ·have hbi:(5000:Int)<(q:Int):=by omega
        have hR1:R=1:=by
         rw[←HR.out,if_pos]
         have h2:=HLE.out
         have:=HQ.out
         omega
        subst hR1
        clear hbig
        go_wp2
        go_ret
        exact ⟨rfl,hxa⟩
       ·have hbi:¬(5000:Int)<(q:Int):=by omega
        have hq5:q≤5000:=by omega
        clear hbig
        go_wp2
        go_roundw
        case rel=>exact ⟨k+1,q,hlt,by go_num,rfl,hq5,HQ,hxa⟩
        case measure=>simp[intOf];omega
  ·have hke:k=l.length:=by omega
   subst hke
   have hnn:=hnk.out
   rw[List.take_of_length_le (Nat.le_refl _)] at hnn
   have hR0:R=0:=by rw[←HR.out,if_neg];omega
   subst hR0
   clear hnn hnk
   go_wp2
   go_ret
   exact ⟨rfl,hx⟩
section
set_option linter.unusedSimpArgs false
theorem large18_any (x:Fc) (w:World) (hr:RdC w x) (hw:fwide x.f):
 Calls Tryz.prog 17 #[.agg (cellsC x).toArray] w fun e w'=>e= .returned (.bool (decide (5000<bigF x.f)))∧Ext w w':=by
 have hone:=cellsC_one hr.sl
 have HT:=gd (fun (w':World) (h:Ext w w')=>tooLarge_any (.slice (some ⟨w'.heap.size,0,none⟩) 1 1) [x] (w'.alloc (.cells (cellsC x).toArray 32)) (rsl_new (w:=w') (n:=1) (cs:=cellsC x) (by rfl) (by decide)) (fun y hy=>by rw[List.mem_singleton.1 hy];exact (hr.ext h).ext ((Ext.refl _).alloc _)) (by show 1≤reachBytes;unfold reachBytes;decide) (fun y hy=>by rw[List.mem_singleton.1 hy];exact hw))
 have hb:bigL ([x].map Fc.f)=bigF x.f:=by unfold bigL;simp
 rw[hb] at HT
 obtain ⟨b,hbb⟩:∃b,bigF x.f=b:=⟨_,rfl⟩
 rw[hbb] at HT⊢
 clear hb hbb hone hw
 obtain ⟨xp,xes,⟨xpath,xid,xtitle,xlink,xupd,xents⟩⟩:=x
 obtain ⟨hx0,hx1⟩:=hr
 dsimp only at*
 obtain ⟨xA,xc,rfl, -, -⟩:=hx0.form
 obtain ⟨xB,xd,rfl, -, -⟩:=hx1.form
 unfold cellsC fCells at HT⊢
 dsimp only at HT⊢
 clear hx0 hx1
 by_cases h5:5000<b
 ·rw[if_pos h5] at HT
  rw[decide_eq_true h5]
  clear h5
  go_enter Tryz.func17,Tryz.ntmps17
  go_wp2_with (first|(go_at_call 47;(have hz:=HT.out _ ((Ext.refl w).alloc (.cells #[.slice xA xpath.length xc,.string xid,.string xtitle,.string xlink,.int .i64 xupd,.slice xB xents.length xd] 32)));(rw[size_alloc] at hz);(refine Calls.mono hz ?_);clear hz;rintro e w1 ⟨rfl,hx1⟩))
  go_ret
  exact ⟨rfl,(((Ext.refl w).alloc _).alloc _).trans hx1⟩
 ·rw[if_neg h5] at HT
  rw[decide_eq_false h5]
  clear h5
  go_enter Tryz.func17,Tryz.ntmps17
  go_wp2_with (first|(go_at_call 47;(have hz:=HT.out _ ((Ext.refl w).alloc (.cells #[.slice xA xpath.length xc,.string xid,.string xtitle,.string xlink,.int .i64 xupd,.slice xB xents.length xd] 32)));(rw[size_alloc] at hz);(refine Calls.mono hz ?_);clear hz;rintro e w1 ⟨rfl,hx1⟩))
  go_ret
  exact ⟨rfl,(((Ext.refl w).alloc _).alloc _).trans hx1⟩
end
section
set_option linter.unusedSimpArgs false
def bareF (f:Fd):Fd:={f with path:= []}
def bareC (x:Fc):Fc:=⟨.slice none 0 0,x.es,bareF x.f⟩
theorem bareC_rd {w:World} {x:Fc} (h:RdC w x):RdC w (bareC x):=⟨RSl.nil w 1,h.2⟩
theorem bareF_wide {f:Fd} (h:fwide f):fwide (bareF f):=⟨h.1,Nat.zero_le _,fun s hs=>by simp[bareF] at hs,h.2.2.2⟩
theorem small_J {f:Fd} (hw:fwide f) (h:¬5000<bigF f):fokS f∧smallJ f:=by
 have h':bigH f+bigP f.path+bigEs f.ents≤5000:=by unfold bigF at h;omega
 have hh:bigH f≤5000:=by omega
 unfold bigH capN at hh
 refine ⟨small_fok hw (by omega),fun s hs=> ?_,fun e he s hs=> ?_⟩
 ·simp only[List.mem_cons,List.not_mem_nil,or_false] at hs
  rcases hs with rfl|rfl|rfl<;>omega
 ·have hb:=bigE_mem he
  have hc:bigE e≤5000:=by omega
  unfold bigE capN at hc
  unfold strsE at hs
  simp only[List.mem_cons,List.not_mem_nil,or_false] at hs
  rcases hs with rfl|rfl|rfl|rfl<;>omega
end
section
theorem array5 {α:Type} {cs:Array α} (h:cs.size=5):∃c0 c1 c2 c3 c4,cs=#[c0,c1,c2,c3,c4]:=by
 obtain ⟨l⟩:=cs
 match l,h with
 | [c0,c1,c2,c3,c4],_=>exact ⟨c0,c1,c2,c3,c4,rfl⟩
instance openEnt:Inhabited Ent:=⟨zeroE⟩
theorem flat_getk {α:Type} {k:Nat} (hk:0<k):∀(css:List (List α)),(∀c∈css,c.length=k)→∀j,css.flatten[j]? =(css[j / k]?).bind fun c=>c[j % k]?
 | [],_,j=>by simp
 |c::t,h,j=>by
  have hc:c.length=k:=h c (by simp)
  rw[List.flatten_cons]
  by_cases hj:j<k
  ·rw[List.getElem?_append_left (by omega),Nat.div_eq_of_lt hj,Nat.mod_eq_of_lt hj]
   rfl
  ·rw[List.getElem?_append_right (by omega),hc,flat_getk hk t (fun x hx=>h x (by simp[hx]))]
   have e1:j / k=(j - k) / k+1:=by
    have:=Nat.div_eq_sub_div hk (show k≤j by omega)
    omega
   have e2:j % k=(j - k) % k:=Nat.mod_eq_sub_mod (by omega)
   rw[e1,e2,List.getElem?_cons_succ]
theorem rsl_of_cells {w:World} {k:Nat} (hk:0<k) {a:Addr} {len cap:Nat} (css:Nat→List Value) (hl:len≤cap) (hm:cap≤maxLen)
 (h:∀i,i<len→(css i).length=k∧∀j,j<k→w.cell? ((a.add (i*k)).add j)=(css i)[j]?):RSl w k (.slice (some a) len cap) len ((List.range len).map css).flatten:=by
 have hlens:∀c∈(List.range len).map css,c.length=k:=by
  intro c hc
  obtain ⟨i,hi,rfl⟩:=List.mem_map.1 hc
  exact (h i (List.mem_range.1 hi)).1
 refine ⟨?_,some a,cap,rfl,hl,hm,(fun e=>by cases e),fun j u hu=>⟨a,rfl,?_⟩⟩
 ·clear hm hl
  have key:∀(l:List (List Value)),(∀c∈l,c.length=k)→l.flatten.length=l.length*k:=by
   intro l
   induction l with
   |nil=>intro _;simp
   |cons c t ih=>
    intro h
    rw[List.flatten_cons,List.length_append,h c (by simp),ih fun x hx=>h x (by simp[hx]),List.length_cons,Nat.succ_mul]
    omega
  rw[key _ hlens]
  simp
 ·rw[flat_getk hk _ hlens] at hu
  by_cases hi:j / k<len
  ·have e:((List.range len).map css)[j / k]? =some (css (j / k)):=by simp[hi]
   rw[e] at hu
   have hu':(css (j / k))[j % k]? =some u:=hu
   have h2:=(h (j / k) hi).2 (j % k) (Nat.mod_lt _ hk)
   rw[addr_add2] at h2
   have e2:j / k*k+j % k=j:=by rw[Nat.mul_comm];exact Nat.div_add_mod j k
   rw[e2] at h2
   rw[h2,hu']
  ·have e:((List.range len).map css)[j / k]? =none:=by simp;omega
   rw[e] at hu
   cases hu
theorem mem_weightsAll {H:Type} {P:Program} {e:TypeId} {n:Nat}:∀{l:List (DataW H)} {d:DataW H},d∈l→n∈d.weights P e→n∈DataW.weightsAll P e l
 | [],_,h,_=>by simp at h
 |x::t,d,h,hn=>by
  unfold DataW.weightsAll
  rcases List.mem_cons.1 h with h|h
  ·subst h;exact List.mem_append_left _ hn
  ·exact List.mem_append_right _ (mem_weightsAll h hn)
section
variable {H:Type} {enc:TypeId×Value→H} {P:Program} {w:World} {base:Nat} {spare:Nat→Bool} {held:Bool}
theorem trod5 {t:TypeId} {f0 f1 f2 f3 f4:Field} {fuel:Nat} {cs:List Value} {x:DataW H×List MemPlace} (hs:P.underlying t=some (.struct #[f0,f1,f2,f3,f4])) (hone:oneCellFields P #[f0,f1,f2,f3,f4]=true) (hC:P.cellsOf t=5)
 (h:DataW.trod enc P w base spare held fuel t cs=some x):
 ∃(v0 v1 v2 v3 v4:Value) (y0 y1 y2 y3 y4:DataW H×List MemPlace) (n:Nat),cs= [v0,v1,v2,v3,v4]∧x.1= .agg [y0.1,y1.1,y2.1,y3.1,y4.1]∧
  DataW.trod enc P w base spare held n f0.type [v0]=some y0∧DataW.trod enc P w base spare held n f1.type [v1]=some y1∧DataW.trod enc P w base spare held n f2.type [v2]=some y2∧DataW.trod enc P w base spare held n f3.type [v3]=some y3∧DataW.trod enc P w base spare held n f4.type [v4]=some y4:=by
 obtain ⟨xs,n,_,hx,hl,hlen,hall⟩:=DataW.trod_struct hs h
 obtain ⟨o0,k0⟩:=hone_of hone 0 f0 rfl
 obtain ⟨o1,k1⟩:=hone_of hone 1 f1 rfl
 obtain ⟨o2,k2⟩:=hone_of hone 2 f2 rfl
 obtain ⟨o3,k3⟩:=hone_of hone 3 f3 rfl
 obtain ⟨o4,k4⟩:=hone_of hone 4 f4 rfl
 rw[hC] at hl
 obtain ⟨c0,c1,c2,c3,c4,hc⟩:=array5 (cs:=cs.toArray) (by simpa using hl)
 have hc:cs= [c0,c1,c2,c3,c4]:=by simpa using congrArg Array.toList hc
 subst hc
 match xs,hlen with
 | [y0,y1,y2,y3,y4],_=>
  exact ⟨c0,c1,c2,c3,c4,y0,y1,y2,y3,y4,n,rfl,by rw[hx];rfl,by simpa [Value.cells,o0,k0] using hall 0 f0 rfl,by simpa [Value.cells,o1,k1] using hall 1 f1 rfl,by simpa [Value.cells,o2,k2] using hall 2 f2 rfl,by simpa [Value.cells,o3,k3] using hall 3 f3 rfl,by simpa [Value.cells,o4,k4] using hall 4 f4 rfl⟩
theorem array6 {α:Type} {cs:Array α} (h:cs.size=6):∃c0 c1 c2 c3 c4 c5,cs=#[c0,c1,c2,c3,c4,c5]:=by
 obtain ⟨l⟩:=cs
 match l,h with
 | [c0,c1,c2,c3,c4,c5],_=>exact ⟨c0,c1,c2,c3,c4,c5,rfl⟩
theorem trod6 {t:TypeId} {f0 f1 f2 f3 f4 f5:Field} {fuel:Nat} {cs:List Value} {x:DataW H×List MemPlace} (hs:P.underlying t=some (.struct #[f0,f1,f2,f3,f4,f5])) (hone:oneCellFields P #[f0,f1,f2,f3,f4,f5]=true) (hC:P.cellsOf t=6)
 (h:DataW.trod enc P w base spare held fuel t cs=some x):
 ∃(v0 v1 v2 v3 v4 v5:Value) (y0 y1 y2 y3 y4 y5:DataW H×List MemPlace) (n:Nat),cs= [v0,v1,v2,v3,v4,v5]∧x.1= .agg [y0.1,y1.1,y2.1,y3.1,y4.1,y5.1]∧
  DataW.trod enc P w base spare held n f0.type [v0]=some y0∧DataW.trod enc P w base spare held n f1.type [v1]=some y1∧DataW.trod enc P w base spare held n f2.type [v2]=some y2∧DataW.trod enc P w base spare held n f3.type [v3]=some y3∧DataW.trod enc P w base spare held n f4.type [v4]=some y4∧DataW.trod enc P w base spare held n f5.type [v5]=some y5:=by
 obtain ⟨xs,n,_,hx,hl,hlen,hall⟩:=DataW.trod_struct hs h
 obtain ⟨o0,k0⟩:=hone_of hone 0 f0 rfl
 obtain ⟨o1,k1⟩:=hone_of hone 1 f1 rfl
 obtain ⟨o2,k2⟩:=hone_of hone 2 f2 rfl
 obtain ⟨o3,k3⟩:=hone_of hone 3 f3 rfl
 obtain ⟨o4,k4⟩:=hone_of hone 4 f4 rfl
 obtain ⟨o5,k5⟩:=hone_of hone 5 f5 rfl
 rw[hC] at hl
 obtain ⟨c0,c1,c2,c3,c4,c5,hc⟩:=array6 (cs:=cs.toArray) (by simpa using hl)
 have hc:cs= [c0,c1,c2,c3,c4,c5]:=by simpa using congrArg Array.toList hc
 subst hc
 match xs,hlen with
 | [y0,y1,y2,y3,y4,y5],_=>
  exact ⟨c0,c1,c2,c3,c4,c5,y0,y1,y2,y3,y4,y5,n,rfl,by rw[hx];rfl,by simpa [Value.cells,o0,k0] using hall 0 f0 rfl,by simpa [Value.cells,o1,k1] using hall 1 f1 rfl,by simpa [Value.cells,o2,k2] using hall 2 f2 rfl,by simpa [Value.cells,o3,k3] using hall 3 f3 rfl,by simpa [Value.cells,o4,k4] using hall 4 f4 rfl,by simpa [Value.cells,o5,k5] using hall 5 f5 rfl⟩
end
section
variable {H:Type} {enc:TypeId×Value→H} {P:Program} {w:World} {base:Nat} {spare:Nat→Bool} {held:Bool}
end
theorem i64_of_wf {n:Int} (h:(Lit.int .i64 n).wf=true):i64ok n:=by
 have h':(decide (IntKind.min .i64≤n) && decide (n≤IntKind.max .i64))=true:=h
 rw[Bool.and_eq_true] at h'
 exact ⟨of_decide_eq_true h'.1,of_decide_eq_true h'.2⟩
section
variable {H:Type} {enc:TypeId×Value→H} {w:World}
theorem open_ent {fuel:Nat} {cs:List Value} {x:DataW H×List MemPlace} (h:DataW.trod enc Tryz.prog w 0 (fun _=>true) true fuel 64 cs=some x):
 ∃e:Ent,cs=eCells e∧i64ok e.upd∧((∀n∈x.1.weights Tryz.prog 64,n≤reachBytes)→ewide e):=by
 obtain ⟨c0,c1,c2,c3,c4,y0,y1,y2,y3,y4,n,rfl,hx,k0,k1,k2,k3,k4⟩:=trod5 Tryz.underlying64 (by kernel_rfl) (by kernel_rfl) h
 obtain ⟨s0,e0,w0,b0⟩:=DataW.trod_string Tryz.underlying9 k0
 obtain ⟨s1,e1,w1,b1⟩:=DataW.trod_string Tryz.underlying9 k1
 obtain ⟨s2,e2,w2,b2⟩:=DataW.trod_string Tryz.underlying9 k2
 obtain ⟨s3,e3,w3,b3⟩:=DataW.trod_string Tryz.underlying9 k3
 obtain ⟨n4,e4,w4,b4⟩:=DataW.trod_int Tryz.underlying2 k4
 injection e0 with e0
 injection e1 with e1
 injection e2 with e2
 injection e3 with e3
 injection e4 with e4
 subst e0 e1 e2 e3 e4
 clear k0 k1 k2 k3 k4
 rw[w0,w1,w2,w3,w4] at hx
 refine ⟨⟨s0,s1,s2,s3,n4⟩,rfl,i64_of_wf b4,fun hw=> ?_⟩
 rw[hx] at hw
 simp[DataW.weightsEach,DataW.weights,Tryz.underlying64] at hw
 exact ⟨i64_of_wf b4,hw.1,hw.2.1,hw.2.2.1,hw.2.2.2⟩
theorem open_ents {fuel:Nat} {v:Value} {x:DataW H×List MemPlace} (h:DataW.trod enc Tryz.prog w 0 (fun _=>true) true fuel 30 [v]=some x):
 ∃l:List Ent,REnts w v l∧((∀n∈x.1.weights Tryz.prog 30,n≤reachBytes)→l.length≤reachBytes∧∀e∈l,ewide e):=by
 rcases open_slice Tryz.underlying30 h with ⟨hv,hx⟩|⟨a,len,cap,m,n,D,Pl,hv,_,hl,hm,hmm,hx,hel⟩
 ·injection hv with hv
  subst hv
  exact ⟨[],RSl.nil w 5,fun _=>⟨Nat.zero_le _,by simp⟩⟩
 ·injection hv with hv
  subst hv
  simp only[if_true] at hmm
  have hmm':=hmm.symm
  subst hmm'
  have hc:Tryz.prog.cellsOf 64=5:=by kernel_rfl
  have hby:Tryz.prog.bytesOf 64=72:=by kernel_rfl
  obtain ⟨E,hE⟩:=choose_lt (α:=Ent) (n:=len) (p:=fun i e=>(∀j,j<5→w.cell? ((a.add (i*5)).add j)=(eCells e)[j]?)∧((∀n∈(D i).weights Tryz.prog 64,n≤reachBytes)→ewide e)) (fun i hi=>by
   obtain ⟨cs',h1,h2⟩:=hel i (by omega)
   obtain ⟨e,rfl,_,hw⟩:=open_ent h2
   rw[hc] at h1
   obtain ⟨_,_,hcell⟩:=World.cells?_some h1
   exact ⟨e,hcell,hw⟩)
  refine ⟨(List.range len).map E,?_,fun hw=> ?_⟩
  ·have:=rsl_of_cells (w:=w) (k:=5) (by decide) (a:=a) (len:=len) (cap:=cap) (fun i=>eCells (E i)) hl hm (fun i hi=>⟨rfl,(hE i hi).1⟩)
   unfold REnts flatE
   rw[List.length_map,List.length_range,List.map_map]
   exact this
  ·rw[hx] at hw
   simp only[DataW.weights,Tryz.underlying30,hby,List.length_map,List.length_range] at hw
   refine ⟨?_,fun e he=> ?_⟩
   ·have:=hw _ (List.mem_cons_self ..)
    rw[List.length_map,List.length_range]
    omega
   ·obtain ⟨i,hi,rfl⟩:=List.mem_map.1 he
    have hi:=List.mem_range.1 hi
    refine (hE i hi).2 fun n hn=>hw n (List.mem_cons_of_mem _ (List.mem_append_left _ (mem_weightsAll (List.mem_map.2 ⟨i,List.mem_range.2 hi,rfl⟩) hn)))
theorem open_strsF {fuel:Nat} {v:Value} {x:DataW H×List MemPlace} (h:DataW.trod enc Tryz.prog w 0 (fun _=>true) true fuel 29 [v]=some x):
 ∃l:List ByteArray,RStrs w v l∧((∀n∈x.1.weights Tryz.prog 29,n≤reachBytes)→l.length≤reachBytes∧∀s∈l,s.size≤reachBytes):=by
 rcases open_strs Tryz.underlying29 Tryz.underlying9 (by kernel_rfl) h with ⟨hv,hx⟩|⟨a,len,cap,m,Sx,hv,_,hl,hm,hmm,hx,hel⟩
 ·injection hv with hv
  subst hv
  exact ⟨[],RSl.nil w 1,fun _=>⟨Nat.zero_le _,by simp⟩⟩
 ·injection hv with hv
  subst hv
  simp only[if_true] at hmm
  have hmm':=hmm.symm
  subst hmm'
  have hby:Tryz.prog.bytesOf 9=16:=by kernel_rfl
  refine ⟨(List.range len).map Sx,?_,fun hw=> ?_⟩
  ·have:=rsl_of_cells (w:=w) (k:=1) (by decide) (a:=a) (len:=len) (cap:=cap) (fun i=> [.string (Sx i)]) hl hm (fun i hi=>⟨rfl,fun j hj=>by
    have hj0:j=0:=by omega
    subst hj0
    rw[add_zero,Nat.mul_one]
    exact (hel i (by omega)).1⟩)
   unfold RStrs
   rw[List.length_map,List.length_range,List.map_map]
   have e:((List.range len).map fun i=> [Value.string (Sx i)]).flatten=(List.range len).map (Value.string∘Sx):=by
    generalize List.range len=r
    induction r with
    |nil=>rfl
    |cons i t ih=>simp[ih]
   rw[←e]
   exact this
  ·rw[hx] at hw
   simp only[DataW.weights,Tryz.underlying29,hby,List.length_map,List.length_range] at hw
   refine ⟨?_,fun s hs=> ?_⟩
   ·have:=hw _ (List.mem_cons_self ..)
    rw[List.length_map,List.length_range]
    omega
   ·obtain ⟨i,hi,rfl⟩:=List.mem_map.1 hs
    have:=hw (Sx i).size (List.mem_cons_of_mem _ (List.mem_append_left _ (mem_weightsAll (List.mem_map.2 ⟨i,hi,rfl⟩) (by simp[DataW.weights]))))
    exact this
theorem open_fd {fuel:Nat} {cs:List Value} {x:DataW H×List MemPlace} (h:DataW.trod enc Tryz.prog w 0 (fun _=>true) true fuel 32 cs=some x):
 ∃f:Fc,cs=cellsC f∧RdC w f∧((∀n∈x.1.weights Tryz.prog 32,n≤reachBytes)→fwide f.f):=by
 obtain ⟨c0,c1,c2,c3,c4,c5,y0,y1,y2,y3,y4,y5,n,rfl,hx,k0,k1,k2,k3,k4,k5⟩:=trod6 Tryz.underlying32 (by kernel_rfl) (by kernel_rfl) h
 obtain ⟨l0,r0,q0⟩:=open_strsF k0
 obtain ⟨s1,e1,w1,b1⟩:=DataW.trod_string Tryz.underlying9 k1
 obtain ⟨s2,e2,w2,b2⟩:=DataW.trod_string Tryz.underlying9 k2
 obtain ⟨s3,e3,w3,b3⟩:=DataW.trod_string Tryz.underlying9 k3
 obtain ⟨n4,e4,w4,b4⟩:=DataW.trod_int Tryz.underlying2 k4
 obtain ⟨l5,r5,q5⟩:=open_ents k5
 injection e1 with e1
 injection e2 with e2
 injection e3 with e3
 injection e4 with e4
 subst e1 e2 e3 e4
 clear k0 k1 k2 k3 k4 k5
 rw[w1,w2,w3,w4] at hx
 refine ⟨⟨c0,c5,⟨l0,s1,s2,s3,n4,l5⟩⟩,rfl,⟨r0,r5⟩,fun hw=> ?_⟩
 rw[hx] at hw
 simp only[DataW.weights,Tryz.underlying32,DataW.weightsEach,List.map_cons,List.map_nil,List.append_nil,List.nil_append] at hw
 have g0:=q0 fun n hn=>hw n (List.mem_append_left _ hn)
 have g5:=q5 fun n hn=>hw n (by simp[hn])
 have g1:s1.size≤reachBytes:=hw _ (by simp)
 have g2:s2.size≤reachBytes:=hw _ (by simp)
 have g3:s3.size≤reachBytes:=hw _ (by simp)
 exact ⟨i64_of_wf b4,g0.1,g0.2,g1,g2,g3,g5.1,g5.2⟩
end
end
end Go.Proofs.YthlnaldahkgjnaaGreatDoor
