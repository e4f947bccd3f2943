/- Parts of the proof: contracts and plain laws. -/
import Derived.Test.YthlnaldahkgjnaaGreatDoorV10
namespace Go.Proofs.YthlnaldahkgjnaaGreatDoor
open Go Go.RowKit
set_option linter.unusedVariables false
set_option linter.unusedSimpArgs false
set_option maxRecDepth 100000
set_option maxHeartbeats 16000000
theorem digP_drop (l:List UInt8) (k i:Nat):digP (l.drop k) i=digP l (k+i):=by unfold digP;rw[List.getElem?_drop]
theorem numP_drop (l:List UInt8) (k a:Nat):∀w,numP (l.drop k) a w=numP l (k+a) w
 |0=>rfl
 |w+1=>by unfold numP;rw[numP_drop l k a w,digP_drop,Nat.add_assoc]
theorem sepP_drop (l:List UInt8) (k i a b:Nat):sepP (l.drop k) i a b=sepP l (k+i) a b:=by unfold sepP;rw[List.getElem?_drop]
theorem digsP_drop (l:List UInt8) (k:Nat):∀(f i:Nat),digsP (l.drop k) f i=digsP l f (k+i)
 |0,_=>rfl
 |f+1,i=>by unfold digsP;rw[digP_drop,digsP_drop l k f (i+1),Nat.add_assoc]
theorem offP_drop (l:List UInt8) (k a:Nat) (h:k≤l.length):offP (l.drop k) a=offP l (k+a):=by
 unfold offP
 simp only[sepP_drop,numP_drop,List.length_drop,←Nat.add_assoc]
 have e1:(l.length - k=a+1)=(l.length=k+a+1):=propext (by omega)
 have e6:(l.length - k=a+6)=(l.length=k+a+6):=propext (by omega)
 simp only[e1,e6]
theorem sepB_is (l:List UInt8) (i c:Nat) (h:c≠116):sepB l i c=sepP l i c c:=by
 unfold sepB sepP
 cases l[i]? with
 |none=>rfl
 |some x=>simp[h]
theorem sepB_t (l:List UInt8) (i:Nat):sepB l i 116=sepP l i 84 116:=by
 unfold sepB sepP
 cases l[i]? with
 |none=>rfl
 |some x=>simp[Bool.or_comm]
theorem grp2 (l:List UInt8):grpG l [58] [2,2] 0 0=match numP l 0 2,numP l 3 2 with
 |some h,some m=>if sepP l 2 58 58 then some ([h,m],5) else none
 |_,_=>none:=by
 simp only[grpG,sepB_is l 2 58 (by decide),Nat.zero_add,List.getD_cons_zero,Nat.reduceAdd]
 cases numP l 0 2 with
 |none=>rfl
 |some h=>
  cases sepP l 2 58 58 with
  |false=>cases numP l 3 2<;>rfl
  |true=>cases numP l 3 2<;>rfl
theorem grp6 (l:List UInt8):grpG l [45,45,116,58,58] [4,2,2,2,2,2] 0 0=if sepsP l then match numP l 0 4,numP l 5 2,numP l 8 2,numP l 11 2,numP l 14 2,numP l 17 2 with
 |some y,some m,some d,some h,some mi,some s=>some ([y,m,d,h,mi,s],19)
 |_,_,_,_,_,_=>none
 else none:=by
 unfold sepsP
 simp only[grpG,sepB_is l _ 45 (by decide),sepB_is l _ 58 (by decide),sepB_t,Nat.zero_add,List.getD_cons_zero,List.getD_cons_succ,Nat.reduceAdd]
 cases numP l 0 4 with
 |none=>cases sepP l 4 45 45<;>cases sepP l 7 45 45<;>cases sepP l 10 84 116<;>cases sepP l 13 58 58<;>cases sepP l 16 58 58<;>rfl
 |some y=>
  cases sepP l 4 45 45 with
  |false=>rfl
  |true=>
   cases numP l 5 2 with
   |none=>cases sepP l 7 45 45<;>cases sepP l 10 84 116<;>cases sepP l 13 58 58<;>cases sepP l 16 58 58<;>rfl
   |some m=>
    cases sepP l 7 45 45 with
    |false=>rfl
    |true=>
     cases numP l 8 2 with
     |none=>cases sepP l 10 84 116<;>cases sepP l 13 58 58<;>cases sepP l 16 58 58<;>rfl
     |some d=>
      cases sepP l 10 84 116 with
      |false=>rfl
      |true=>
       cases numP l 11 2 with
       |none=>cases sepP l 13 58 58<;>cases sepP l 16 58 58<;>rfl
       |some h=>
        cases sepP l 13 58 58 with
        |false=>rfl
        |true=>
         cases numP l 14 2 with
         |none=>cases sepP l 16 58 58<;>rfl
         |some mi=>
          cases sepP l 16 58 58 with
          |false=>rfl
          |true=>cases numP l 17 2<;>rfl
section
set_option linter.unusedSimpArgs false
theorem empty_iff (T:ByteArray):T.toList.isEmpty=decide (T.size=0):=by
 rw[show T.toList=T.data.toList from ByteArray.toList_eq _,←data_len,Bool.eq_iff_iff,List.isEmpty_iff,decide_eq_true_eq]
 exact ⟨fun h=>by rw[h];rfl,List.eq_nil_of_length_eq_zero⟩
theorem byte_at {T:ByteArray} {i:Nat} (h:i<T.size):(T[i]'h).toNat=(T.data.toList[i]'(by rw[data_len];exact h)).toNat:=rfl
def fracE (l:List UInt8):Nat×Bool:=if sepP l 0 46 46 then (1+digsP l l.length 1,decide (0<digsP l l.length 1)) else (0,true)
theorem fraction_any (T:ByteArray) (w:World) (hs:T.size≤16777216):
 Calls Tryz.prog 119 #[.string T] w fun e w'=>e= .returned (.tuple #[.string (str (T.data.toList.drop (fracE T.data.toList).1)),.bool (fracE T.data.toList).2])∧w'=w:=by
 have hemp:=empty_iff T
 by_cases h0:T.size=0
 ·have hl:T.data.toList= []:=List.eq_nil_of_length_eq_zero (by rw[data_len];exact h0)
  have hF:fracE T.data.toList=(0,true):=by rw[hl];rfl
  rw[hF]
  simp only[List.drop_zero,str_of]
  rw[decide_eq_true h0] at hemp
  clear hl hF h0
  go_enter Tryz.func119,Tryz.ntmps119
  go_wp2
  go_ret2
  exact ⟨rfl,rfl⟩
 ·have hT0:0<T.size:=by omega
  rw[decide_eq_false h0] at hemp
  have hTi:(0:Int)<(T.size:Int):=by omega
  have hsep:=sepP_at (l:=T.data.toList) (i:=0) 46 46 (by rw[data_len];exact hT0)
  rw[←byte_at hT0] at hsep
  obtain ⟨x,hx⟩:∃x,(T[0]'hT0).toNat=x:=⟨_,rfl⟩
  rw[hx] at hsep
  have hxi:(((T[0]'hT0).toNat:Nat):Int)=(x:Int):=by rw[hx]
  by_cases h46:x=46
  ·have hF:fracE T.data.toList=(1+digsP T.data.toList T.data.toList.length 1,decide (0<digsP T.data.toList T.data.toList.length 1)):=by unfold fracE;rw[hsep,h46];rfl
   have hle:=digsP_le (l:=T.data.toList) T.data.toList.length 1 (by rw[data_len];exact hT0)
   rw[hF]
   simp only
   obtain ⟨D,hD⟩:∃D,digsP T.data.toList T.data.toList.length 1=D:=⟨_,rfl⟩
   rw[hD] at hle⊢
   rw[data_len] at hle
   have HD:=gd hD
   subst h46
   clear hF hsep h0 hx hD
   go_enter Tryz.func119,Tryz.ntmps119
   go_wp2
   obtain ⟨wP,hwP⟩:∃wP:World,wP=w:=⟨_,rfl⟩
   subst hwP
   go_loopw [4] (fun v wr=>∃k:Nat,1≤k∧k≤T.size∧v= .int .i64 (k:Nat)∧Hid (k+digsP T.data.toList T.data.toList.length k=1+D)∧wr=wP) (fun v _=>T.size - (intOf v).toNat)
   case atStart=>exact ⟨1,by omega,by omega,rfl,by show _=_;rw[HD.out],rfl⟩
   case round=>
    obtain ⟨k,hk1,hk,rfl,hda,rfl⟩:=hrel
    have stop:(digP T.data.toList k).isSome=false→k=1+D:=fun h=>by have:=hda.out;rw[digsP_stop h] at this;exact this
    by_cases hlt:k<T.size
    ·have hd:=digP_at (l:=T.data.toList) (i:=k) (by rw[data_len];exact hlt)
     rw[←byte_at hlt] at hd
     obtain ⟨y,hy⟩:∃y,(T[k]'hlt).toNat=y:=⟨_,rfl⟩
     rw[hy] at hd
     have hyi:(((T[k]'hlt).toNat:Nat):Int)=(y:Int):=by rw[hy]
     have b0:(0:Int)≤(k:Int):=by omega
     have b1:(k:Int)<(T.size:Int):=by omega
     by_cases hdig:48≤y∧y≤57
     ·have hda2:Hid (k+1+digsP T.data.toList T.data.toList.length (k+1)=1+D):=by
       show _=_
       rw[←hda.out]
       obtain ⟨q,hq⟩:∃q,T.data.toList.length=q+1:=⟨T.data.toList.length - 1,by rw[data_len];omega⟩
       have h2:=digsP_step (l:=T.data.toList) (k:=q) (i:=k) (by rw[hd,if_pos hdig];rfl)
       have h3:=digsP_fuel (l:=T.data.toList) q T.data.toList.length (k+1) (by omega) (by omega)
       rw[hq] at h3⊢
       omega
      have c1:(48:Int)≤(y:Int):=by omega
      have c2:(y:Int)≤57:=by omega
      clear hd hda stop hy hdig
      go_wp2
      go_roundw
      case rel=>exact ⟨k+1,by omega,hlt,by go_num,hda2,trivial⟩
      case measure=>simp[intOf];omega
     ·have hkD:=stop (by rw[hd,if_neg hdig];rfl)
      have hsl:=from_in T k (by omega)
      have hcase:¬(48:Int)≤(y:Int)∨((48:Int)≤(y:Int)∧¬(y:Int)≤57):=by omega
      have hkd:decide ((1:Int)<(k:Int))=decide (0<D):=by rw[Bool.eq_iff_iff,decide_eq_true_eq,decide_eq_true_eq];omega
      have HKD:=gd hkD
      have HKE:=gd hkd
      clear hd hda stop hy hdig hkD hkd
      rcases hcase with c1|⟨c1,c2⟩
      all_goals go_wp2
      all_goals go_ret2
      all_goals exact ⟨by rw[←HKD.out,←HKE.out];simp,rfl⟩
    ·obtain rfl:k=T.size:=by omega
     have hkD:=stop (by rw[digP_end (by rw[data_len];exact Nat.le_refl _)];rfl)
     have hsl:=from_in T T.size (Nat.le_refl _)
     have hkd:decide ((1:Int)<(T.size:Int))=decide (0<D):=by rw[Bool.eq_iff_iff,decide_eq_true_eq,decide_eq_true_eq];omega
     have HKD:=gd hkD
     have HKE:=gd hkd
     clear hda stop hkD hkd
     go_wp2
     go_ret2
     exact ⟨by rw[←HKD.out,←HKE.out];simp,rfl⟩
  ·have hF:fracE T.data.toList=(0,true):=by unfold fracE;rw[hsep];simp[h46]
   rw[hF]
   simp only[List.drop_zero,str_of]
   have q1:((x:Int) !=46)=true:=by rw[bne_iff_ne];omega
   clear hF hsep h0 hx h46
   go_enter Tryz.func119,Tryz.ntmps119
   go_wp2
   go_ret2
   exact ⟨rfl,rfl⟩
end
section
set_option linter.unusedSimpArgs false
theorem OI.cell {w:World} {B:Nat} {v:Value} {l:List Nat} (h:OI w B v l) (h0:0<l.length):∃g cap,v= .slice (some ⟨g,0,none⟩) l.length cap∧∀j (hj:j<l.length),w.cell? ⟨g,j,none⟩=some (.int .i64 (l[j]:Nat)):=by
 rcases h.2 with ⟨rfl,h1⟩|⟨g,cap,cur,rfl,h1,h2,h3,h4,h5,h6⟩
 ·omega
 ·refine ⟨g,cap,rfl,fun j hj=> ?_⟩
  have:=World.ownsRow.cells (g:=g) h rfl j (.int .i64 (l[j]:Nat)) (by rw[ints,List.getElem?_map,List.getElem?_eq_getElem hj];rfl)
  rwa [show (⟨g,0,none⟩:Addr).add j=⟨g,j,none⟩ from by unfold Addr.add;split<;>simp_all] at this
theorem OI.two {w:World} {B:Nat} {v:Value} {a b:Nat} (h:OI w B v [a,b]):∃g cap,v= .slice (some ⟨g,0,none⟩) 2 cap∧w.cell? ⟨g,0,none⟩=some (.int .i64 (a:Nat))∧w.cell? ⟨g,1,none⟩=some (.int .i64 (b:Nat)):=by
 obtain ⟨g,cap,rfl,hc⟩:=h.cell (by simp)
 exact ⟨g,cap,rfl,hc 0 (by simp),hc 1 (by simp)⟩
theorem OI.six {w:World} {B:Nat} {v:Value} {a b c d e f:Nat} (h:OI w B v [a,b,c,d,e,f]):∃g cap,v= .slice (some ⟨g,0,none⟩) 6 cap∧w.cell? ⟨g,0,none⟩=some (.int .i64 (a:Nat))∧w.cell? ⟨g,1,none⟩=some (.int .i64 (b:Nat))∧
 w.cell? ⟨g,2,none⟩=some (.int .i64 (c:Nat))∧w.cell? ⟨g,3,none⟩=some (.int .i64 (d:Nat))∧w.cell? ⟨g,4,none⟩=some (.int .i64 (e:Nat))∧w.cell? ⟨g,5,none⟩=some (.int .i64 (f:Nat)):=by
 obtain ⟨g,cap,rfl,hc⟩:=h.cell (by simp)
 exact ⟨g,cap,rfl,hc 0 (by simp),hc 1 (by simp),hc 2 (by simp),hc 3 (by simp),hc 4 (by simp),hc 5 (by simp)⟩
def OffR (l:List UInt8) (e:Ending):Prop:=e= .returned (match offP l 0 with|some x=> .tuple #[.int .i64 x,.bool true]|none=> .tuple #[.int .i64 0,.bool false])
theorem offset_any (T:ByteArray) (w:World) (hs:T.size≤16777216):
 Calls Tryz.prog 120 #[.string T] w fun e w'=>OffR T.data.toList e∧Ext w w':=by
 have hemp:=empty_iff T
 by_cases h0:T.size=0
 ·have hl:T.data.toList= []:=List.eq_nil_of_length_eq_zero (by rw[data_len];exact h0)
  have hF:offP T.data.toList 0=none:=by rw[hl];rfl
  rw[decide_eq_true h0] at hemp
  have hz1:T.toList= []:=by rw[show T.toList=T.data.toList from ByteArray.toList_eq _,hl]
  unfold OffR
  rw[hF]
  clear hl hF h0
  go_enter Tryz.func120,Tryz.ntmps120
  go_wp2
  go_ret2
  exact ⟨rfl,Ext.refl _⟩
 ·have hT0:0<T.size:=by omega
  rw[decide_eq_false h0] at hemp
  have hTi:(0:Int)<(T.size:Int):=by omega
  have hal:0<T.data.toList.length:=by rw[data_len];exact hT0
  have hsZ:=sepP_at (l:=T.data.toList) (i:=0) 90 122 hal
  have hsS:=sepP_at (l:=T.data.toList) (i:=0) 43 45 hal
  have hs45:=sepP_at (l:=T.data.toList) (i:=0) 45 45 hal
  rw[←byte_at hT0] at hsZ hsS hs45
  obtain ⟨x,hx⟩:∃x,(T[0]'hT0).toNat=x:=⟨_,rfl⟩
  rw[hx] at hsZ hsS hs45
  have hxi:(((T[0]'hT0).toNat:Nat):Int)=(x:Int):=by rw[hx]
  have hlist:∀c:UInt8,T.toList= [c]↔(T.size=1∧x=c.toNat):=by
   intro c
   rw[show T.toList=T.data.toList from ByteArray.toList_eq _]
   have hb:T.data.toList[0]=T[0]'hT0:=rfl
   constructor
   ·intro h
    have h1:=congrArg List.length h
    rw[data_len] at h1
    have h2:T.data.toList[0]? =some c:=by rw[h];rfl
    rw[List.getElem?_eq_getElem hal,hb] at h2
    injection h2 with h2
    exact ⟨h1,by rw[←hx,h2]⟩
   ·rintro ⟨h1,h2⟩
    have h3:T.data.toList.length=1:=by rw[data_len];exact h1
    have h4:T[0]'hT0=c:=UInt8.toNat_inj.1 (hx.trans h2)
    match hl:T.data.toList,h3 with
    | [d],_=>rw[←h4,←hb];simp[hl]
  by_cases hone:T.size=1∧(x=90∨x=122)
  ·have hF:offP T.data.toList 0=some 0:=by
    unfold offP
    rw[hsZ,if_pos (by rcases hone.2 with h|h<;>simp[h]),if_pos (by rw[data_len];omega)]
   unfold OffR
   rw[hF]
   rcases hone with ⟨h1,h2|h2⟩
   ·have hz:T.toList= [90]:=(hlist 90).2 ⟨h1,h2⟩
    clear hF hsZ hsS hs45 hlist hx hxi h0 hemp hal
    go_enter Tryz.func120,Tryz.ntmps120
    go_wp2
    go_ret2
    exact ⟨rfl,Ext.refl _⟩
   ·have hz:T.toList= [122]:=(hlist 122).2 ⟨h1,h2⟩
    clear hF hsZ hsS hs45 hlist hx hxi h0 hemp hal
    go_enter Tryz.func120,Tryz.ntmps120
    go_wp2
    go_ret2
    exact ⟨rfl,Ext.refl _⟩
  ·have hz1:(T.toList== [90])=false:=by
    rw[beq_eq_false_iff_ne];exact fun h=>hone ⟨((hlist 90).1 h).1,Or.inl ((hlist 90).1 h).2⟩
   have hz2:(T.toList== [122])=false:=by
    rw[beq_eq_false_iff_ne];exact fun h=>hone ⟨((hlist 122).1 h).1,Or.inr ((hlist 122).1 h).2⟩
   by_cases hsgn:x=43∨x=45
   ·have hZ0:sepP T.data.toList 0 90 122=false:=by rw[hsZ];rcases hsgn with h|h<;>rw[h]<;>rfl
    have hS0:sepP T.data.toList 0 43 45=true:=by rw[hsS];rcases hsgn with h|h<;>rw[h]<;>rfl
    have hF:=offP_at T.data.toList 0 hZ0
    rw[hS0,hs45] at hF
    have hsl:=from_in T 1 (by omega)
    rw[show ((1:Nat):Int)=1 from rfl] at hsl
    obtain ⟨M,hM⟩:∃M,str (T.data.toList.drop 1)=M:=⟨_,rfl⟩
    rw[hM] at hsl
    have hMl:M.data.toList=T.data.toList.drop 1:=by rw[←hM,str_list]
    have hMs:M.size=T.size - 1:=by rw[←hM,str_size,List.length_drop,data_len]
    have hg:=grp2 M.data.toList
    rw[hMl,numP_drop,numP_drop,sepP_drop] at hg
    have HGR:=gd (fun w' (V:Value) (hV:RSl w' 1 V 2 (ints [2,2]))=>groups_any M ⟨#[58]⟩ [2,2] V w' (by omega) hV (by decide) (by decide) (by decide) (by decide))
    rw[show ((⟨#[58]⟩:ByteArray).data.toList.map UInt8.toNat)= [58] from rfl] at HGR
    have hrow:RSl (w.alloc (.cells #[.int .i64 2,.int .i64 2] 3)) 1 (.slice (some ⟨w.heap.size,0,none⟩) 2 2) 2 (ints [2,2]):=rsl_new (cs:= [.int .i64 2,.int .i64 2]) rfl (by decide)
    replace HGR:=gd (HGR.out _ _ hrow)
    rw[hMl] at HGR
    have q1:((x:Int) !=43 && (x:Int) !=45)=false:=by rcases hsgn with h|h<;>rw[h]<;>rfl
    have hcase:(grpG (T.data.toList.drop 1) [58] [2,2] 0 0=none∧offP T.data.toList 0=none)∨(∃h m,h<100∧m<100∧6≤T.size∧grpG (T.data.toList.drop 1) [58] [2,2] 0 0=some ([h,m],5)∧
     offP T.data.toList 0=if h≤23∧m≤59∧T.data.toList.length=6 then some (if x=45 then -((h*3600+m*60:Nat):Int) else ((h*3600+m*60:Nat):Int)) else none):=by
     rw[hg,hF]
     rw[show 0+1=1+0 from rfl,show 0+4=1+3 from rfl,show 0+3=1+2 from rfl]
     cases h1:numP T.data.toList (1+0) 2 with
     |none=>exact Or.inl ⟨rfl,rfl⟩
     |some h=>
      cases h2:numP T.data.toList (1+3) 2 with
      |none=>exact Or.inl ⟨rfl,rfl⟩
      |some m=>
       cases h3:sepP T.data.toList (1+2) 58 58 with
       |false=>exact Or.inl ⟨rfl,by simp⟩
       |true=>
        refine Or.inr ⟨h,m,numP_lt h1,numP_lt h2,?_,rfl,by simp⟩
        rcases Nat.lt_or_ge T.data.toList.length 6 with h6|h6
        ·rw[numP_short (by omega) (by omega)] at h2;cases h2
        ·rwa [data_len] at h6
    clear hF hsZ hsS hs45 hlist hx h0 hal hone hZ0 hS0 hg hM
    rcases hcase with ⟨hgn,hF⟩|⟨h,m,hh,hm,hT6,hgs,hF⟩
    ·rw[hgn] at HGR
     unfold OffR
     rw[hF]
     simp only[GrpR] at HGR
     clear hF hMl hMs hgn
     go_enter Tryz.func120,Tryz.ntmps120
     rcases hsgn with rfl|rfl
     all_goals go_wp2_with (first|(go_at_call 117;(have hz:=HGR.out);(with_reducible refine Calls.mono hz ?_);clear hz;rintro e w1 ⟨rfl,hx1⟩))
     all_goals go_ret2
     all_goals exact ⟨rfl,((Ext.refl w).alloc _).trans hx1⟩
    ·rw[hgs] at HGR
     obtain ⟨Q,hQ⟩:∃Q,str (M.data.toList.drop 5)=Q:=⟨_,rfl⟩
     have hQs:Q.size=T.size - 6:=by rw[←hQ,str_size,List.length_drop,hMl,List.length_drop,data_len];omega
     have hQe:=empty_iff Q
     simp only[GrpR,hQ] at HGR
     rw[data_len] at hF
     by_cases hgood:h≤23∧m≤59∧T.size=6
     ·rw[if_pos hgood] at hF
      unfold OffR
      rw[hF]
      obtain ⟨g1,g2,g3⟩:=hgood
      rw[decide_eq_true (show Q.size=0 by omega)] at hQe
      have c1:¬23<(h:Int):=by omega
      have c2:¬59<(m:Int):=by omega
      clear hF hMl hgs hQ hQs hMs
      go_enter Tryz.func120,Tryz.ntmps120
      rcases hsgn with rfl|rfl
      all_goals go_wp2_with (first|(go_at_call 117;(have hz:=HGR.out);(with_reducible refine Calls.mono hz ?_);clear hz;rintro e w1 ⟨⟨v,rfl,hov⟩,hx1⟩;(obtain ⟨g,cap,rfl,d0,d1⟩:=hov.two);clear hov))
      all_goals go_region
      all_goals go_wp2
      all_goals go_ret2
      ·exact ⟨by refine congrArg (fun t=>Ending.returned (.tuple #[.int .i64 t,.bool true])) ?_;first|rfl|omega,(((Ext.refl w).alloc _).trans hx1).drew⟩
      ·exact ⟨by refine congrArg (fun t=>Ending.returned (.tuple #[.int .i64 t,.bool true])) ?_;first|rfl|omega,(((Ext.refl w).alloc _).trans hx1).drew⟩
     ·rw[if_neg hgood] at hF
      unfold OffR
      rw[hF]
      have hways:(Q.toList.isEmpty=false)∨(Q.toList.isEmpty=true∧23<(h:Int))∨(Q.toList.isEmpty=true∧¬23<(h:Int)∧59<(m:Int)):=by
       by_cases h0:Q.size=0
       ·rw[decide_eq_true h0] at hQe
        by_cases h23:23<(h:Int)
        ·exact Or.inr (Or.inl ⟨hQe,h23⟩)
        ·refine Or.inr (Or.inr ⟨hQe,h23,?_⟩)
         by_cases h59:59<(m:Int)
         ·exact h59
         ·exact absurd ⟨by omega,by omega,by omega⟩ hgood
       ·rw[decide_eq_false h0] at hQe
        exact Or.inl hQe
      clear hF hMl hgs hQ hQs hMs hgood hQe
      go_enter Tryz.func120,Tryz.ntmps120
      rcases hsgn with rfl|rfl
      all_goals rcases hways with c0|⟨c0,c1⟩|⟨c0,c1,c2⟩
      all_goals go_wp2_with (first|(go_at_call 117;(have hz:=HGR.out);(with_reducible refine Calls.mono hz ?_);clear hz;rintro e w1 ⟨⟨v,rfl,hov⟩,hx1⟩;(obtain ⟨g,cap,rfl,d0,d1⟩:=hov.two);clear hov))
      all_goals go_ret2
      all_goals exact ⟨rfl,((Ext.refl w).alloc _).trans hx1⟩
   ·have hF:offP T.data.toList 0=none:=by
     have hS0:sepP T.data.toList 0 43 45=false:=by rw[hsS];simp only[not_or] at hsgn;simp[hsgn]
     cases hZ0:sepP T.data.toList 0 90 122 with
     |true=>
      unfold offP
      rw[hZ0,if_pos rfl,if_neg]
      intro h
      rw[data_len] at h
      rw[hsZ] at hZ0
      exact hone ⟨h,by simpa using hZ0⟩
     |false=>exact offP_bad hZ0 (Or.inl hS0)
    unfold OffR
    rw[hF]
    have q1:((x:Int) !=43)=true:=by rw[bne_iff_ne];omega
    have q2:((x:Int) !=45)=true:=by rw[bne_iff_ne];omega
    clear hF hsZ hsS hs45 hlist hx h0 hal hone hsgn
    go_enter Tryz.func120,Tryz.ntmps120
    go_wp2
    go_ret2
    exact ⟨rfl,Ext.refl _⟩
end
section
set_option linter.unusedSimpArgs false
theorem str_at (S:ByteArray) (a:Nat) (h:a≤S.size):(str (S.data.toList.drop a)).data.toList=S.data.toList.drop a∧(str (S.data.toList.drop a)).size=S.size - a:=⟨str_list _,by rw[str_size,List.length_drop,data_len]⟩
theorem fracE_at (l:List UInt8) (h:19≤l.length):fracP l 19=if (fracE (l.drop 19)).2 then some (19+(fracE (l.drop 19)).1) else none:=by
 unfold fracP fracE
 rw[sepP_drop,digsP_drop]
 cases sepP l (19+0) 46 46 with
 |false=>rfl
 |true=>
  simp only[if_true]
  rw[show 19+1=20 from rfl]
  rw[digsP_fuel (l:=l) l.length (l.drop 19).length 20 (by omega) (by rw[List.length_drop];omega)]
  generalize digsP l (l.drop 19).length 20=D
  by_cases hD:D=0
  ·subst hD;rfl
  ·rw[if_neg hD,decide_eq_true (by omega)];simp;omega
theorem fracE_le (l:List UInt8):(fracE l).1≤l.length:=by
 unfold fracE
 cases h:sepP l 0 46 46 with
 |false=>exact Nat.zero_le _
 |true=>
  rw[if_pos rfl]
  have h0:0<l.length:=by
   rcases Nat.lt_or_ge 0 l.length with h1|h1
   ·exact h1
   ·rw[sepP_end 46 46 h1] at h;cases h
  exact digsP_le l.length 1 h0
attribute [local go_sem] calm1
theorem time_any (S:ByteArray) (w:World) (hs:S.size≤16777216):
 Calls Tryz.prog 71 #[.string S] w fun e w'=>TimeR S.data.toList e∧Ext w w':=by
 have hst:=stampP_at S.data.toList
 have hrow:RSl (w.alloc (.cells #[.int .i64 4,.int .i64 2,.int .i64 2,.int .i64 2,.int .i64 2,.int .i64 2] 3)) 1 (.slice (some ⟨w.heap.size,0,none⟩) 6 6) 6 (ints [4,2,2,2,2,2]):=rsl_new (cs:= [.int .i64 4,.int .i64 2,.int .i64 2,.int .i64 2,.int .i64 2,.int .i64 2]) rfl (by decide)
 have HGR:=gd (groups_any S ⟨#[45,45,116,58,58]⟩ [4,2,2,2,2,2] _ _ hs hrow (by decide) (by decide) (by decide) (by decide))
 rw[show ((⟨#[45,45,116,58,58]⟩:ByteArray).data.toList.map UInt8.toNat)= [45,45,116,58,58] from rfl] at HGR
 have hg:=grp6 S.data.toList
 cases hgr:grpG S.data.toList [45,45,116,58,58] [4,2,2,2,2,2] 0 0 with
 |none=>
  rw[hgr] at HGR hg
  simp only[GrpR] at HGR
  have hstn:stampP S.data.toList=none:=by
   rw[hst]
   cases hsp:sepsP S.data.toList with
   |false=>rfl
   |true=>
    rw[hsp,if_pos rfl] at hg
    rw[if_pos rfl,secsI_oi]
    cases h0:numP S.data.toList 0 4 with
    |none=>rfl
    |some y=>cases h1:numP S.data.toList 5 2 with
     |none=>rfl
     |some m=>cases h2:numP S.data.toList 8 2 with
      |none=>rfl
      |some d=>cases h3:numP S.data.toList 11 2 with
       |none=>rfl
       |some h=>cases h4:numP S.data.toList 14 2 with
        |none=>rfl
        |some mi=>cases h5:numP S.data.toList 17 2 with
         |none=>rfl
         |some s=>rw[h0,h1,h2,h3,h4,h5] at hg;cases hg
  have hTS:=timeP_none1 hstn
  have HR:Hid (∀e,TimeR S.data.toList e=∃x:Int,x≠0∧e= .returned (.tuple #[.int .i64 0,.int .i64 x])):=gd (fun e=>by unfold TimeR;rw[hTS])
  clear hst hg hgr hstn hTS
  go_enter Tryz.func71,Tryz.ntmps71
  go_wp2_with (first|(go_at_call 117;(have hz:=HGR.out);(with_reducible refine Calls.mono hz ?_);clear hz;rintro e w1 ⟨rfl,hx1⟩))
  go_ret2
  exact ⟨by rw[HR.out];exact ⟨20,by decide,rfl⟩,((Ext.refl w).alloc _).trans hx1⟩
 |some p=>
  rw[hgr] at hg HGR
  have hparts:∃y m d h mi s,p=([y,m,d,h,mi,s],19)∧y<10000∧m<100∧d<100∧h<100∧mi<100∧s<100∧19≤S.size∧stampP S.data.toList=secsI (y:Int) (m:Int) (d:Int) (h:Int) (mi:Int) (s:Int):=by
   cases hsp:sepsP S.data.toList with
   |false=>rw[hsp] at hg;cases hg
   |true=>
    rw[hsp,if_pos rfl] at hg
    rw[hsp,if_pos rfl] at hst
    cases h0:numP S.data.toList 0 4 with
    |none=>rw[h0] at hg;cases hg
    |some y=>cases h1:numP S.data.toList 5 2 with
     |none=>rw[h0,h1] at hg;cases hg
     |some m=>cases h2:numP S.data.toList 8 2 with
      |none=>rw[h0,h1,h2] at hg;cases hg
      |some d=>cases h3:numP S.data.toList 11 2 with
       |none=>rw[h0,h1,h2,h3] at hg;cases hg
       |some h=>cases h4:numP S.data.toList 14 2 with
        |none=>rw[h0,h1,h2,h3,h4] at hg;cases hg
        |some mi=>cases h5:numP S.data.toList 17 2 with
         |none=>rw[h0,h1,h2,h3,h4,h5] at hg;cases hg
         |some s=>
          rw[h0,h1,h2,h3,h4,h5] at hg hst
          injection hg with hg
          refine ⟨y,m,d,h,mi,s,hg,numP_lt h0,numP_lt h1,numP_lt h2,numP_lt h3,numP_lt h4,numP_lt h5,?_,hst⟩
          rcases Nat.lt_or_ge S.data.toList.length 19 with h6|h6
          ·rw[numP_short (by omega) (by omega)] at h5;cases h5
          ·rwa [data_len] at h6
  obtain ⟨y,m,d,h,mi,s,rfl,hy,hm,hd,hh,hmi,hss,h19,hstamp⟩:=hparts
  have hfr:=fracE_at S.data.toList (by rw[data_len];exact h19)
  obtain ⟨ha1,ha2⟩:=str_at S 19 h19
  obtain ⟨Q,hQ⟩:∃Q,str (S.data.toList.drop 19)=Q:=⟨_,rfl⟩
  rw[hQ] at ha1 ha2
  have hle:=fracE_le Q.data.toList
  have HFR:=gd (fun w'=>fraction_any Q w' (by omega))
  rw[←ha1] at hfr
  obtain ⟨F,hF⟩:∃F,(fracE Q.data.toList).1=F:=⟨_,rfl⟩
  obtain ⟨fb,hfb⟩:∃b,(fracE Q.data.toList).2=b:=⟨_,rfl⟩
  rw[hF,hfb] at hfr HFR
  rw[hF,data_len,ha2] at hle
  obtain ⟨Z,hZ⟩:∃Z,str (Q.data.toList.drop F)=Z:=⟨_,rfl⟩
  have hZl:Z.data.toList=S.data.toList.drop (19+F):=by rw[←hZ,str_list,ha1,List.drop_drop]
  have hZs:Z.size≤16777216:=by rw[←hZ,str_size,List.length_drop,data_len];omega
  rw[hZ] at HFR
  have HOF:=gd (fun w'=>offset_any Z w' hZs)
  have hoff:offP Z.data.toList 0=offP S.data.toList (19+F):=by rw[hZl,offP_drop _ _ _ (by rw[data_len];omega),Nat.add_zero]
  unfold OffR at HOF
  rw[hoff] at HOF
  have HSE:=gd (fun w'=>seconds_any (y:Int) (m:Int) (d:Int) (h:Int) (mi:Int) (s:Int) w')
  simp only[GrpR,hQ] at HGR
  have by1:(y:Int)≤9999:=by omega
  clear hg hgr hst hle ha1 ha2 hF hfb hZ hZl hZs hoff hrow hQ
  have hO:∃(O:Int) (ob:Bool),Hid (∀w':World,Calls Tryz.prog 120 #[.string Z] w' fun e w''=>e= .returned (.tuple #[.int .i64 O,.bool ob])∧Ext w' w'')∧offP S.data.toList (19+F)=if ob then some O else none:=by
   cases hoo:offP S.data.toList (19+F) with
   |none=>rw[hoo] at HOF;exact ⟨0,false,HOF,rfl⟩
   |some x=>rw[hoo] at HOF;exact ⟨x,true,HOF,rfl⟩
  clear HOF
  obtain ⟨O,ob,HOF,hO2⟩:=hO
  cases hsec:secsI (y:Int) (m:Int) (d:Int) (h:Int) (mi:Int) (s:Int) with
  |none=>
   rw[hsec] at hstamp HSE
   have hTS:=timeP_none1 hstamp
   have HR:Hid (∀e,TimeR S.data.toList e=∃x:Int,x≠0∧e= .returned (.tuple #[.int .i64 0,.int .i64 x])):=gd (fun e=>by unfold TimeR;rw[hTS])
   clear hTS hstamp hsec hfr hO2
   go_enter Tryz.func71,Tryz.ntmps71
   go_wp2_with (first|(go_at_call 117;(have hz:=HGR.out);(with_reducible refine Calls.mono hz ?_);clear hz;rintro e w1 ⟨⟨v,rfl,hov⟩,hx1⟩;(obtain ⟨g,cap,rfl,d0,d1,d2,d3,d4,d5⟩:=hov.six);clear hov))
   have z0:∀D:Aft w1,D.w.cell? ⟨g,0,none⟩=some (.int .i64 (y:Nat)):=Aft.cell d0
   have z1:∀D:Aft w1,D.w.cell? ⟨g,1,none⟩=some (.int .i64 (m:Nat)):=Aft.cell d1
   have z2:∀D:Aft w1,D.w.cell? ⟨g,2,none⟩=some (.int .i64 (d:Nat)):=Aft.cell d2
   have z3:∀D:Aft w1,D.w.cell? ⟨g,3,none⟩=some (.int .i64 (h:Nat)):=Aft.cell d3
   have z4:∀D:Aft w1,D.w.cell? ⟨g,4,none⟩=some (.int .i64 (mi:Nat)):=Aft.cell d4
   have z5:∀D:Aft w1,D.w.cell? ⟨g,5,none⟩=some (.int .i64 (s:Nat)):=Aft.cell d5
   clear d0 d1 d2 d3 d4 d5
   refine rA ?_
   repeat (quiet_step ((go_at_call 118;with_reducible exact quiet_call_same' (HSE.out _))))
   refine wpQuiet_nil ?_
   rintro _ ⟨D,rfl⟩
   have hxD:=D.ext
   clear z0 z1 z2 z3 z4 z5
   go_wp2_with (first|(go_at_call 119;(have hz:=HFR.out D.w);(with_reducible refine Calls.mono hz ?_);clear hz;rintro e w3 ⟨rfl,hw3⟩;subst hw3)|(go_at_call 120;(have hz:=HOF.out D.w);(with_reducible refine Calls.mono hz ?_);clear hz;rintro e w4 ⟨rfl,hx4⟩))
   go_ret2
   exact ⟨by rw[HR.out];exact ⟨20,by decide,rfl⟩,((((Ext.refl w).alloc _).trans hx1).trans hxD).trans hx4⟩
  |some t=>
   have hin:=secsI_in hsec
   rw[hsec] at hstamp HSE
   clear hsec
   cases fb with
   |false=>
    have hTS:=timeP_none2 hfr
    have HR:Hid (∀e,TimeR S.data.toList e=∃x:Int,x≠0∧e= .returned (.tuple #[.int .i64 0,.int .i64 x])):=gd (fun e=>by unfold TimeR;rw[hTS])
    clear hTS hstamp hfr hO2 hin
    go_enter Tryz.func71,Tryz.ntmps71
    go_wp2_with (first|(go_at_call 117;(have hz:=HGR.out);(with_reducible refine Calls.mono hz ?_);clear hz;rintro e w1 ⟨⟨v,rfl,hov⟩,hx1⟩;(obtain ⟨g,cap,rfl,d0,d1,d2,d3,d4,d5⟩:=hov.six);clear hov))
    have z0:∀D:Aft w1,D.w.cell? ⟨g,0,none⟩=some (.int .i64 (y:Nat)):=Aft.cell d0
    have z1:∀D:Aft w1,D.w.cell? ⟨g,1,none⟩=some (.int .i64 (m:Nat)):=Aft.cell d1
    have z2:∀D:Aft w1,D.w.cell? ⟨g,2,none⟩=some (.int .i64 (d:Nat)):=Aft.cell d2
    have z3:∀D:Aft w1,D.w.cell? ⟨g,3,none⟩=some (.int .i64 (h:Nat)):=Aft.cell d3
    have z4:∀D:Aft w1,D.w.cell? ⟨g,4,none⟩=some (.int .i64 (mi:Nat)):=Aft.cell d4
    have z5:∀D:Aft w1,D.w.cell? ⟨g,5,none⟩=some (.int .i64 (s:Nat)):=Aft.cell d5
    clear d0 d1 d2 d3 d4 d5
    refine rA ?_
    repeat (quiet_step ((go_at_call 118;with_reducible exact quiet_call_same' (HSE.out _))))
    refine wpQuiet_nil ?_
    rintro _ ⟨D,rfl⟩
    have hxD:=D.ext
    clear z0 z1 z2 z3 z4 z5
    go_wp2_with (first|(go_at_call 119;(have hz:=HFR.out D.w);(with_reducible refine Calls.mono hz ?_);clear hz;rintro e w3 ⟨rfl,hw3⟩;subst hw3)|(go_at_call 120;(have hz:=HOF.out D.w);(with_reducible refine Calls.mono hz ?_);clear hz;rintro e w4 ⟨rfl,hx4⟩))
    go_ret2
    exact ⟨by rw[HR.out];exact ⟨20,by decide,rfl⟩,((((Ext.refl w).alloc _).trans hx1).trans hxD).trans hx4⟩
   |true=>
    rw[if_pos rfl] at hfr
    have hTS:=timeP_some hstamp hfr
    cases ob with
    |false=>
     rw[if_neg (by decide)] at hO2
     rw[hO2] at hTS
     have HR:Hid (∀e,TimeR S.data.toList e=∃x:Int,x≠0∧e= .returned (.tuple #[.int .i64 0,.int .i64 x])):=gd (fun e=>by unfold TimeR;rw[hTS])
     clear hTS hstamp hfr hO2 hin
     go_enter Tryz.func71,Tryz.ntmps71
     go_wp2_with (first|(go_at_call 117;(have hz:=HGR.out);(with_reducible refine Calls.mono hz ?_);clear hz;rintro e w1 ⟨⟨v,rfl,hov⟩,hx1⟩;(obtain ⟨g,cap,rfl,d0,d1,d2,d3,d4,d5⟩:=hov.six);clear hov))
     have z0:∀D:Aft w1,D.w.cell? ⟨g,0,none⟩=some (.int .i64 (y:Nat)):=Aft.cell d0
     have z1:∀D:Aft w1,D.w.cell? ⟨g,1,none⟩=some (.int .i64 (m:Nat)):=Aft.cell d1
     have z2:∀D:Aft w1,D.w.cell? ⟨g,2,none⟩=some (.int .i64 (d:Nat)):=Aft.cell d2
     have z3:∀D:Aft w1,D.w.cell? ⟨g,3,none⟩=some (.int .i64 (h:Nat)):=Aft.cell d3
     have z4:∀D:Aft w1,D.w.cell? ⟨g,4,none⟩=some (.int .i64 (mi:Nat)):=Aft.cell d4
     have z5:∀D:Aft w1,D.w.cell? ⟨g,5,none⟩=some (.int .i64 (s:Nat)):=Aft.cell d5
     clear d0 d1 d2 d3 d4 d5
     refine rA ?_
     repeat (quiet_step ((go_at_call 118;with_reducible exact quiet_call_same' (HSE.out _))))
     refine wpQuiet_nil ?_
     rintro _ ⟨D,rfl⟩
     have hxD:=D.ext
     clear z0 z1 z2 z3 z4 z5
     go_wp2_with (first|(go_at_call 119;(have hz:=HFR.out D.w);(with_reducible refine Calls.mono hz ?_);clear hz;rintro e w3 ⟨rfl,hw3⟩;subst hw3)|(go_at_call 120;(have hz:=HOF.out D.w);(with_reducible refine Calls.mono hz ?_);clear hz;rintro e w4 ⟨rfl,hx4⟩))
     go_ret2
     exact ⟨by rw[HR.out];exact ⟨20,by decide,rfl⟩,((((Ext.refl w).alloc _).trans hx1).trans hxD).trans hx4⟩
    |true=>
     rw[if_pos rfl] at hO2
     have hoi:=offP_in hO2
     rw[hO2] at hTS
     simp only at hTS
     have hw:wrap64 (t - O)=t - O:=wrap_ok _ ⟨by omega,by omega⟩
     cases hT:inT (t - O) with
     |true=>
      rw[hT,if_pos rfl] at hTS
      have HR:Hid (∀e,TimeR S.data.toList e=(e= .returned (.tuple #[.int .i64 (t - O),.int .i64 0]))):=gd (fun e=>by unfold TimeR;rw[hTS])
      have hr: -62135596800≤t - O∧t - O≤253402300799:=by simpa [inT] using hT
      obtain ⟨X,hX⟩:∃X,t - O=X:=⟨_,rfl⟩
      rw[hX] at hr HR hw
      have q1:¬X< -62135596800:=by omega
      have q2:¬253402300799<X:=by omega
      clear hTS hstamp hfr hO2 hin hoi hT hr
      go_enter Tryz.func71,Tryz.ntmps71
      go_wp2_with (first|(go_at_call 117;(have hz:=HGR.out);(with_reducible refine Calls.mono hz ?_);clear hz;rintro e w1 ⟨⟨v,rfl,hov⟩,hx1⟩;(obtain ⟨g,cap,rfl,d0,d1,d2,d3,d4,d5⟩:=hov.six);clear hov))
      have z0:∀D:Aft w1,D.w.cell? ⟨g,0,none⟩=some (.int .i64 (y:Nat)):=Aft.cell d0
      have z1:∀D:Aft w1,D.w.cell? ⟨g,1,none⟩=some (.int .i64 (m:Nat)):=Aft.cell d1
      have z2:∀D:Aft w1,D.w.cell? ⟨g,2,none⟩=some (.int .i64 (d:Nat)):=Aft.cell d2
      have z3:∀D:Aft w1,D.w.cell? ⟨g,3,none⟩=some (.int .i64 (h:Nat)):=Aft.cell d3
      have z4:∀D:Aft w1,D.w.cell? ⟨g,4,none⟩=some (.int .i64 (mi:Nat)):=Aft.cell d4
      have z5:∀D:Aft w1,D.w.cell? ⟨g,5,none⟩=some (.int .i64 (s:Nat)):=Aft.cell d5
      clear d0 d1 d2 d3 d4 d5
      refine rA ?_
      repeat (quiet_step ((go_at_call 118;with_reducible exact quiet_call_same' (HSE.out _))))
      refine wpQuiet_nil ?_
      rintro _ ⟨D,rfl⟩
      have hxD:=D.ext
      clear z0 z1 z2 z3 z4 z5
      go_wp2_with (first|(go_at_call 119;(have hz:=HFR.out D.w);(with_reducible refine Calls.mono hz ?_);clear hz;rintro e w3 ⟨rfl,hw3⟩;subst hw3)|(go_at_call 120;(have hz:=HOF.out D.w);(with_reducible refine Calls.mono hz ?_);clear hz;rintro e w4 ⟨rfl,hx4⟩))
      go_ret2
      exact ⟨by rw[HR.out];rfl,((((Ext.refl w).alloc _).trans hx1).trans hxD).trans hx4⟩
     |false=>
      rw[hT,if_neg (by decide)] at hTS
      have HR:Hid (∀e,TimeR S.data.toList e=∃x:Int,x≠0∧e= .returned (.tuple #[.int .i64 0,.int .i64 x])):=gd (fun e=>by unfold TimeR;rw[hTS])
      have hr:t - O< -62135596800∨(¬t - O< -62135596800∧253402300799<t - O):=by
       have:¬(-62135596800≤t - O∧t - O≤253402300799):=fun h=>by rw[show inT (t - O)=true by simpa [inT] using h] at hT;cases hT
       omega
      obtain ⟨X,hX⟩:∃X,t - O=X:=⟨_,rfl⟩
      rw[hX] at hr hw
      clear hTS hstamp hfr hO2 hin hoi hT
      rcases hr with q1|⟨q1,q2⟩
      all_goals
       go_enter Tryz.func71,Tryz.ntmps71
       go_wp2_with (first|(go_at_call 117;(have hz:=HGR.out);(with_reducible refine Calls.mono hz ?_);clear hz;rintro e w1 ⟨⟨v,rfl,hov⟩,hx1⟩;(obtain ⟨g,cap,rfl,d0,d1,d2,d3,d4,d5⟩:=hov.six);clear hov))
       have z0:∀D:Aft w1,D.w.cell? ⟨g,0,none⟩=some (.int .i64 (y:Nat)):=Aft.cell d0
       have z1:∀D:Aft w1,D.w.cell? ⟨g,1,none⟩=some (.int .i64 (m:Nat)):=Aft.cell d1
       have z2:∀D:Aft w1,D.w.cell? ⟨g,2,none⟩=some (.int .i64 (d:Nat)):=Aft.cell d2
       have z3:∀D:Aft w1,D.w.cell? ⟨g,3,none⟩=some (.int .i64 (h:Nat)):=Aft.cell d3
       have z4:∀D:Aft w1,D.w.cell? ⟨g,4,none⟩=some (.int .i64 (mi:Nat)):=Aft.cell d4
       have z5:∀D:Aft w1,D.w.cell? ⟨g,5,none⟩=some (.int .i64 (s:Nat)):=Aft.cell d5
       clear d0 d1 d2 d3 d4 d5
       refine rA ?_
       repeat (quiet_step ((go_at_call 118;with_reducible exact quiet_call_same' (HSE.out _))))
       refine wpQuiet_nil ?_
       rintro _ ⟨D,rfl⟩
       have hxD:=D.ext
       clear z0 z1 z2 z3 z4 z5
       go_wp2_with (first|(go_at_call 119;(have hz:=HFR.out D.w);(with_reducible refine Calls.mono hz ?_);clear hz;rintro e w3 ⟨rfl,hw3⟩;subst hw3)|(go_at_call 120;(have hz:=HOF.out D.w);(with_reducible refine Calls.mono hz ?_);clear hz;rintro e w4 ⟨rfl,hx4⟩))
       go_ret2
       exact ⟨by rw[HR.out];exact ⟨3,by decide,rfl⟩,((((Ext.refl w).alloc _).trans hx1).trans hxD).trans hx4⟩
end
theorem first_any (j:JO) (cs:List Value) (b sb:Nat) (o:Option (Nat×Nat)) (names:List ByteArray) (w0 w:World) (h:RJ w0 j cs) (hx0:Ext w0 w) (hr:RdAt b cs o w)
 (hs:w.heap[sb]? =some (.cells (names.map Value.string).toArray 9 (0,0))) (hn:names.length≤1000):
 Calls Tryz.prog 29 #[.pointer (some ⟨b,0,none⟩),.slice (some ⟨sb,0,none⟩) names.length names.length] w fun e w'=>e= .returned (.string (firstJ j names))∧Ext w w':=by
 have HGET:=gd (fun w' name o' (hx:Ext w0 w') (hr':RdAt b cs o' w')=>rget_c j cs b o' name w0 w' h hx hr')
 go_enter Tryz.func29,Tryz.ntmps29
 go_wp2
 go_loopw [11] (fun i wr=>∃k:Nat,k≤names.length∧i= .int .i64 k∧Hid (firstJ j names=firstJ j (names.drop k))∧Ext w wr) (fun i _=>names.length - (intOf i).toNat)
 case atStart=>exact ⟨0,Nat.zero_le _,rfl,rfl,Ext.refl _⟩
 case round=>
  obtain ⟨k,hk,rfl,hf,hx⟩:=hrel
  have hsw:=hx.heap hs
  by_cases hlt:k<names.length
  ·have hcell:=names_cell hsw hlt
   have hstep:firstJ j names=match memJ j names[k] with|some x=>sJ x|none=>firstJ j (names.drop (k+1)):=by
    rw[hf.out,List.drop_eq_getElem_cons hlt];rfl
   obtain ⟨NM,hNM⟩:∃n,names[k]=n:=⟨_,rfl⟩
   rw[hNM] at hcell hstep
   have hget:=HGET.out wr NM o (hx0.trans hx) (hr.ext hx)
   clear hf hNM
   cases hm:memJ j NM with
   |none=>
    rw[hm] at hget hstep
    have HST:=gd hstep
    have HG:=gd hget
    clear hget hstep
    go_wp2_with (go_at_call 33;(have hz:=HG.out);(with_reducible refine Calls.mono hz ?_);clear hz;rintro e w1 ⟨⟨x,cx,rfl,hrx,hmx⟩,hx1⟩;(obtain ⟨A1,p1,q1,B1,p2,q2,hc⟩:=hrx.cells);(generalize kindJ _=K,bJ _=Bb,nJ _=Nn,sJ _=Ss,atJ _=At at hc);unfold wcells at hc;subst hc)
    go_roundw
    case rel=>exact ⟨k+1,hlt,rfl,HST,hx.trans (hx1.alloc _)⟩
    case measure=>simp[intOf];omega
   |some x=>
    rw[hm] at hget hstep
    have HST:=gd hstep
    have HG:=gd hget
    clear hget hstep
    go_wp2_with (go_at_call 33;(have hz:=HG.out);(with_reducible refine Calls.mono hz ?_);clear hz;rintro e w1 ⟨⟨y,cx,rfl,hrx,hmx⟩,hx1⟩;(obtain rfl:x=y:=by rcases hmx with hmx|hmx;(injection hmx);(cases hmx.1));(obtain ⟨A1,p1,q1,B1,p2,q2,hc⟩:=hrx.cells);(unfold wcells at hc);(generalize kindJ x=K,bJ x=Bb,nJ x=Nn,atJ x=At at hc);(generalize hS:sJ x=Ss at hc);subst hc)
    go_ret
    exact ⟨by rw[HST.out,hS];rfl,hx.trans (hx1.alloc _)⟩
  ·have hke:names.drop k= []:=List.drop_of_length_le (by omega)
   rw[hke] at hf
   have HST:=gd hf.out
   clear hf
   go_wp2
   go_ret
   exact ⟨by rw[HST.out];rfl,hx⟩
theorem required_any (j:JO) (cs:List Value) (b:Nat) (o:Option (Nat×Nat)) (s:ByteArray) (w0 w:World) (h:RJ w0 j cs) (hx0:Ext w0 w) (hr:RdAt b cs o w) (hs:s.size≤16777216):
 Calls Tryz.prog 31 #[.pointer (some ⟨b,0,none⟩),.string s] w fun e w'=>e= .returned (.tuple #[])∧RdAt b cs (orF o (if collapse s=noS then some (atJ j,19) else none)) w'∧Bar b w w':=by
 have HFAIL:=gd (fun w' at_ e o' (hr':RdAt b cs o' w') (he:e≠0)=>fail_c j cs b o' at_ e w0 w' h hr' he)
 have HCO:=gd (collapse_any s w (by omega))
 obtain ⟨A,p,c,B,q,d,hc⟩:=h.cells
 obtain ⟨C,hC⟩:∃C,collapse s=C:=⟨_,rfl⟩
 rw[hC] at HCO⊢
 have hk:=hr.1
 rw[hc] at hk
 have hk':∀w',Ext w w'→w'.cell? ⟨b,6,none⟩=some (.int .i64 (atJ j:Nat)):=fun w' hx=>cell_of_row _ _ 6 _ _ _ (hx.heap hk)
 clear hC hs
 by_cases hn:C=noS
 ·rw[if_pos hn]
  have hbe:C.toList.isEmpty=true:=by rw[hn];exact isEmpty_str []
  clear hn
  go_enter Tryz.func31,Tryz.ntmps31
  go_wp2_with (first|(go_at_call 30;(have hz:=HCO.out);(with_reducible refine Calls.mono hz ?_);clear hz;rintro e w1 ⟨rfl,hx1⟩;(have hq6:=hk' w1 hx1))|(go_at_call 34;(with_reducible refine Calls.mono (HFAIL.out w1 (atJ j) 19 o (hr.ext hx1) (by decide)) ?_);rintro e w3 ⟨rfl,hr3,hb3⟩))
  all_goals ((try simp only[Exit.inBlock,Exit.then]);refine bodyPost_end (results_none rfl _ _ _) rfl ?_)
  all_goals exact ⟨rfl,hr3,(Bar.of hx1).trans hb3⟩
 ·rw[if_neg hn,orF_none]
  have hbe:C.toList.isEmpty=false:=by
   rw[toList_data]
   cases hl:C.data.toList with
   |nil=>exact absurd (bytes_inj hl) hn
   |cons a t=>rfl
  go_enter Tryz.func31,Tryz.ntmps31
  go_wp2_with (go_at_call 30;(have hz:=HCO.out);(with_reducible refine Calls.mono hz ?_);clear hz;rintro e w1 ⟨rfl,hx1⟩)
  all_goals ((try simp only[Exit.inBlock,Exit.then]);refine bodyPost_end (results_none rfl _ _ _) rfl ?_)
  all_goals exact ⟨rfl,hr.ext hx1,Bar.of hx1⟩
def faultD (x:Except (Nat×Nat) Int):Option (Nat×Nat):=match x with
 | .ok _=>none
 | .error e=>some e
theorem dateJ_step (j:JO) (n:ByteArray) (t:List ByteArray):dateJ j (n::t)=match memJ j n with
 |none=>dateJ j t
 |some x=>match timeP (collapse (sJ x)).data.toList with
  |some t=> .ok t
  |none=> .error (atJ x,20):=rfl
theorem date_any (N:Nat) (j:JO) (cs:List Value) (b sb:Nat) (o:Option (Nat×Nat)) (names:List ByteArray) (w0 w:World) (h:RJ w0 j cs) (hg:jsz N j) (hN:N≤16777216) (hx0:Ext w0 w) (hr:RdAt b cs o w)
 (hs:w.heap[sb]? =some (.cells (names.map Value.string).toArray 9 (0,0))) (hsb:sb≠b) (hn:names.length≤1000):
 Calls Tryz.prog 32 #[.pointer (some ⟨b,0,none⟩),.slice (some ⟨sb,0,none⟩) names.length names.length] w fun e w'=>(∃t:Int,e= .returned (.int .i64 t)∧∀v,dateJ j names= .ok v→t=v)∧RdAt b cs (orF o (faultD (dateJ j names))) w'∧Bar b w w':=by
 have HGET:=gd (fun w' name o' (hx:Ext w0 w') (hr':RdAt b cs o' w')=>rget_c j cs b o' name w0 w' h hx hr')
 have HFAIL:=gd (fun w' at_ e o' (hr':RdAt b cs o' w') (he:e≠0)=>fail_c j cs b o' at_ e w0 w' h hr' he)
 go_enter Tryz.func32,Tryz.ntmps32
 go_wp2
 go_loopw [13] (fun i wr=>∃k:Nat,k≤names.length∧i= .int .i64 k∧Hid (dateJ j names=dateJ j (names.drop k))∧Ext w wr) (fun i _=>names.length - (intOf i).toNat)
 case atStart=>exact ⟨0,Nat.zero_le _,rfl,rfl,Ext.refl _⟩
 case round=>
  obtain ⟨k,hk,rfl,hf,hx⟩:=hrel
  have hsw:=hx.heap hs
  by_cases hlt:k<names.length
  ·have hcell:=names_cell hsw hlt
   have hstep:dateJ j names=match memJ j names[k] with
    |none=>dateJ j (names.drop (k+1))
    |some x=>match timeP (collapse (sJ x)).data.toList with
     |some t=> .ok t
     |none=> .error (atJ x,20):=by
    rw[hf.out,List.drop_eq_getElem_cons hlt,dateJ_step]
   obtain ⟨NM,hNM⟩:∃n,names[k]=n:=⟨_,rfl⟩
   rw[hNM] at hcell hstep
   have hget:=HGET.out wr NM o (hx0.trans hx) (hr.ext hx)
   clear hf hNM
   cases hm:memJ j NM with
   |none=>
    rw[hm] at hget hstep
    have HST:=gd hstep
    have HG:=gd hget
    clear hget hstep
    go_wp2_with (go_at_call 33;(have hz:=HG.out);(with_reducible refine Calls.mono hz ?_);clear hz;rintro e w1 ⟨⟨x,cx,rfl,hrx,hmx⟩,hx1⟩;(obtain ⟨A1,p1,q1,B1,p2,q2,hc⟩:=hrx.cells);(generalize kindJ _=K,bJ _=Bb,nJ _=Nn,sJ _=Ss,atJ _=At at hc);unfold wcells at hc;subst hc)
    go_roundw
    case rel=>exact ⟨k+1,hlt,rfl,HST,hx.trans (hx1.alloc _)⟩
    case measure=>simp[intOf];omega
   |some x=>
    rw[hm] at hget hstep
    simp only at hstep
    have hgx:=memJ_good hg hm
    have hsz:=sJ_size hgx
    have hcz:=collapse_size (sJ x)
    have hco:=fun w'=>collapse_any (sJ x) w' (by omega)
    have hti:=fun w'=>time_any (collapse (sJ x)) w' (by omega)
    generalize collapse (sJ x)=C at hco hti hstep hcz
    have HG:=gd hget
    have HCO:=gd hco
    have hblt:b<wr.heap.size:=(Array.getElem?_eq_some_iff.1 (hr.ext hx).1).1
    clear hget hco hsz hcz hgx
    cases ht:timeP C.data.toList with
    |some t=>
     rw[ht] at hstep
     have HTI:Hid (∀w':World,Calls Tryz.prog 71 #[.string C] w' fun e w''=>e= .returned (.tuple #[.int .i64 t,.int .i64 0])∧Ext w' w''):=gd fun w'=>(hti w').mono fun e w'' ⟨h1,h2⟩=>⟨by unfold TimeR at h1;rw[ht] at h1;exact h1,h2⟩
     have HST:=gd hstep
     clear hstep hti
     go_wp2_with (first|(go_at_call 33;(have hz:=HG.out);(with_reducible refine Calls.mono hz ?_);clear hz;rintro e w1 ⟨⟨y,cx,rfl,hrx,hmx⟩,hx1⟩;(obtain rfl:x=y:=by rcases hmx with hmx|hmx;(injection hmx);(cases hmx.1));(obtain ⟨A1,p1,q1,B1,p2,q2,hc⟩:=hrx.cells);(unfold wcells at hc);(generalize kindJ x=K,bJ x=Bb,nJ x=Nn,sJ x=Ss,atJ x=At at*);subst hc)|(go_at_call 30;(with_reducible refine Calls.mono (HCO.out _) ?_);rintro e w2 ⟨rfl,hx2⟩)|(go_at_call 71;(with_reducible refine Calls.mono (HTI.out _) ?_);rintro e w3 ⟨rfl,hx3⟩))
     go_ret
     have hxx:=hx.trans (((hx1.alloc _).trans hx2).trans hx3)
     exact ⟨⟨t,rfl,fun v hv=>by rw[HST.out] at hv;injection hv⟩,by rw[HST.out];exact (by rw[show faultD (Except.ok t)=none from rfl,orF_none];exact hr.ext hxx),Bar.of hxx⟩
    |none=>
     rw[ht] at hstep
     have HTI:Hid (∀w':World,Calls Tryz.prog 71 #[.string C] w' fun e w''=>∃x:Int,x≠0∧e= .returned (.tuple #[.int .i64 0,.int .i64 x])∧Ext w' w''):=gd fun w'=>(hti w').mono fun e w'' ⟨h1,h2⟩=>by unfold TimeR at h1;rw[ht] at h1;obtain ⟨x,hx,rfl⟩:=h1;exact ⟨x,hx,rfl,h2⟩
     have HST:=gd hstep
     clear hstep hti
     go_wp2_with (first|(go_at_call 33;(have hz:=HG.out);(with_reducible refine Calls.mono hz ?_);clear hz;rintro e w1 ⟨⟨y,cx,rfl,hrx,hmx⟩,hx1⟩;(obtain rfl:x=y:=by rcases hmx with hmx|hmx;(injection hmx);(cases hmx.1));(obtain ⟨A1,p1,q1,B1,p2,q2,hc⟩:=hrx.cells);(unfold wcells at hc);(generalize kindJ x=K,bJ x=Bb,nJ x=Nn,sJ x=Ss at hc HCO);(generalize hAt:atJ x=At at hc);subst hc)|(go_at_call 30;(with_reducible refine Calls.mono (HCO.out _) ?_);rintro e w2 ⟨rfl,hx2⟩)|(go_at_call 71;(with_reducible refine Calls.mono (HTI.out _) ?_);rintro e w3 ⟨er,her,rfl,hx3⟩;(have hq6:=(hx2.trans hx3).boxed 6 _ rfl))|(go_at_call 34;(with_reducible refine Calls.mono (HFAIL.out w3 At 20 o (hr.ext (hx.trans (((hx1.alloc _).trans hx2).trans hx3))) (by decide)) ?_);rintro e w4 ⟨rfl,hr4,hb4⟩))
     go_ret
     have hxx:=hx.trans (((hx1.alloc _).trans hx2).trans hx3)
     exact ⟨⟨0,rfl,fun v hv=>by rw[HST.out] at hv;cases hv⟩,by rw[HST.out,hAt];exact hr4,(Bar.of hxx).trans hb4⟩
  ·have hke:names.drop k= []:=List.drop_of_length_le (by omega)
   rw[hke] at hf
   have HST:=gd hf.out
   clear hf
   go_wp2
   go_ret
   exact ⟨⟨_,rfl,fun v hv=>by rw[HST.out] at hv;injection hv⟩,by rw[HST.out];exact (by rw[show faultD (dateJ j [])=none from rfl,orF_none];exact hr.ext hx),Bar.of hx⟩
def verS (s:ByteArray):Option ByteArray:=if s=str (base1++ [49]) then some v1 else if s=str (base1++ [49,46,49]) then some v11 else none
theorem versJ_get (j:JO):versJ j=match getJ j nVersion with
 |some x=>verS (sJ x)
 |none=>none:=rfl
theorem verS_no {s:ByteArray} (h:Lib.hasPrefix s.data.toList base1=false):verS s=none:=by
 unfold verS
 rw[if_neg,if_neg]
 ·rintro rfl
  rw[str_list] at h
  revert h
  decide
 ·rintro rfl
  rw[str_list] at h
  revert h
  decide
theorem verS_yes {s:ByteArray} {t:List UInt8} (h:Lib.hasPrefix s.data.toList base1=true) (ht:Lib.trimPrefix s.data.toList base1=t):verS s=if t= [49] then some v1 else if t= [49,46,49] then some v11 else none:=by
 have hs:s.data.toList=base1++t:=by
  subst ht
  unfold Lib.trimPrefix
  rw[h]
  unfold Lib.hasPrefix at h
  obtain ⟨r,hr⟩:=List.isPrefixOf_iff_prefix.1 h
  rw[←hr]
  simp
 have e:∀u:List UInt8,s=str (base1++u)↔t=u:=by
  intro u
  constructor
  ·intro h'
   rw[h',str_list] at hs
   exact (List.append_cancel_left hs).symm
  ·rintro rfl
   exact bytes_inj (by rw[hs,str_list])
 unfold verS
 simp only[e]
theorem cut_any (s p:ByteArray) (w:World):Calls Tryz.prog 45 #[.string s,.string p] w fun e w'=>e= .returned (.tuple #[.string (str (Lib.trimPrefix s.data.toList p.data.toList)),.bool (Lib.hasPrefix s.data.toList p.data.toList)])∧w'=w:=Tryz.strings_CutPrefix s p w
def baseS:ByteArray:=⟨#[104,116,116,112,115,58,47,47,106,115,111,110,102,101,101,100,46,111,114,103,47,118,101,114,115,105,111,110,47]⟩
theorem jversion_any (j:JO) (cs:List Value) (w0 w:World) (h:RJ w0 j cs) (hx0:Ext w0 w):
 Calls Tryz.prog 14 #[.agg cs.toArray] w fun e w'=>e= .returned (.tuple #[.string ((versJ j).getD noS),.bool (versJ j).isSome])∧Ext w w':=by
 have HG:=gd (fun w' (hx:Ext w w')=>jget_any j cs nVersion w0 w' h (hx0.trans hx))
 have hv:∃S:ByteArray,(∀e,GotJ w0 (getJ j nVersion) e→∃k bb n A1 p1 q1 B1 p2 q2 a F,e= .returned (.tuple #[.agg #[.int .i64 k,.bool bb,.int .i64 n,.string S,.slice A1 p1 q1,.slice B1 p2 q2,.int .i64 a],.bool F]))∧versJ j=verS S:=by
  cases hj:getJ j nVersion with
  |none=>
   refine ⟨noS,?_,by rw[versJ_get,hj];rw[verS_no (by decide)]⟩
   rintro e ⟨cv,rfl,hr⟩
   obtain ⟨A1,p1,q1,B1,p2,q2,hc⟩:=hr.cells
   subst hc
   exact ⟨_,_,_,_,_,_,_,_,_,_,_,rfl⟩
  |some x=>
   refine ⟨sJ x,?_,by rw[versJ_get,hj]⟩
   rintro e ⟨cv,rfl,hr⟩
   obtain ⟨A1,p1,q1,B1,p2,q2,hc⟩:=hr.cells
   subst hc
   exact ⟨_,_,_,_,_,_,_,_,_,_,_,rfl⟩
 obtain ⟨S,hS,hver⟩:=hv
 have HS:=gd hS
 have hcut:=fun w'=>cut_any S baseS w'
 obtain ⟨A,p,c,B,q,d,hc⟩:=h.cells
 subst hc
 unfold wcells at*
 rw[hver]
 cases hf:Lib.hasPrefix S.data.toList baseS.data.toList with
 |false=>
  rw[hf] at hcut
  rw[verS_no hf]
  generalize str (Lib.trimPrefix S.data.toList baseS.data.toList)=T at hcut
  have HC:=gd hcut
  clear hcut hf hver h hS
  unfold nVersion at HG HS
  unfold baseS at HC
  go_enter Tryz.func14,Tryz.ntmps14
  go_wp2_with (first|(go_at_call 44;(with_reducible refine Calls.mono (HG.out _ ((Ext.refl w).alloc _)) ?_);rintro e w1 ⟨hg,hx1⟩;(obtain ⟨k,bb,n,A1,p1,q1,B1,p2,q2,a,F,rfl⟩:=HS.out e hg))|(go_at_call 45;(with_reducible refine Calls.mono (HC.out _) ?_);rintro e w2 ⟨rfl,rfl⟩))
  go_ret2
  exact ⟨rfl,((Ext.refl w).alloc _).trans (hx1.alloc _)⟩
 |true=>
  rw[hf] at hcut
  obtain ⟨t,ht⟩:∃t,Lib.trimPrefix S.data.toList baseS.data.toList=t:=⟨_,rfl⟩
  rw[ht] at hcut
  rw[verS_yes hf ht]
  obtain ⟨T,hT⟩:∃T,str t=T:=⟨_,rfl⟩
  have hl:T.toList=t:=by rw[←hT,toList_data,str_list]
  rw[hT] at hcut
  have HC:=gd hcut
  clear hcut hf hver h hS ht
  by_cases h1:t= [49]
  ·rw[if_pos h1]
   have e1:T.toList= [49]:=hl.trans h1
   have hv1:=gd (show T=v1 by rw[←hT,h1];rfl)
   clear hl h1 hT
   unfold nVersion at HG HS
   unfold baseS at HC
   go_enter Tryz.func14,Tryz.ntmps14
   go_wp2_with (first|(go_at_call 44;(with_reducible refine Calls.mono (HG.out _ ((Ext.refl w).alloc _)) ?_);rintro e w1 ⟨hg,hx1⟩;(obtain ⟨k,bb,n,A1,p1,q1,B1,p2,q2,a,F,rfl⟩:=HS.out e hg))|(go_at_call 45;(with_reducible refine Calls.mono (HC.out _) ?_);rintro e w2 ⟨rfl,rfl⟩))
   go_ret2
   exact ⟨by rw[hv1.out];rfl,((Ext.refl w).alloc _).trans (hx1.alloc _)⟩
  by_cases h2:t= [49,46,49]
  ·rw[if_neg h1,if_pos h2]
   have e1:T.toList= [49,46,49]:=hl.trans h2
   have hv1:=gd (show T=v11 by rw[←hT,h2];rfl)
   clear hl h1 h2 hT
   unfold nVersion at HG HS
   unfold baseS at HC
   go_enter Tryz.func14,Tryz.ntmps14
   go_wp2_with (first|(go_at_call 44;(with_reducible refine Calls.mono (HG.out _ ((Ext.refl w).alloc _)) ?_);rintro e w1 ⟨hg,hx1⟩;(obtain ⟨k,bb,n,A1,p1,q1,B1,p2,q2,a,F,rfl⟩:=HS.out e hg))|(go_at_call 45;(with_reducible refine Calls.mono (HC.out _) ?_);rintro e w2 ⟨rfl,rfl⟩))
   go_ret2
   exact ⟨by rw[hv1.out];rfl,((Ext.refl w).alloc _).trans (hx1.alloc _)⟩
  ·rw[if_neg h1,if_neg h2]
   have e1:(T.toList== [49])=false:=by rw[hl];simpa using h1
   have e2:(T.toList== [49,46,49])=false:=by rw[hl];simpa using h2
   clear hl h1 h2 hT
   unfold nVersion at HG HS
   unfold baseS at HC
   go_enter Tryz.func14,Tryz.ntmps14
   go_wp2_with (first|(go_at_call 44;(with_reducible refine Calls.mono (HG.out _ ((Ext.refl w).alloc _)) ?_);rintro e w1 ⟨hg,hx1⟩;(obtain ⟨k,bb,n,A1,p1,q1,B1,p2,q2,a,F,rfl⟩:=HS.out e hg))|(go_at_call 45;(with_reducible refine Calls.mono (HC.out _) ?_);rintro e w2 ⟨rfl,rfl⟩))
   all_goals go_ret2
   all_goals exact ⟨rfl,((Ext.refl w).alloc _).trans (hx1.alloc _)⟩
section
theorem Bar.trans' {b g i:Nat} {u v:World} (h:Bar b u v) (hg:u.heap.size≤g) (a:Value):Bar b u (v.setCell ⟨g,i,none⟩ a):=
 ⟨h.os,h.tape,h.output,by have:=h.size;simpa [World.setCell] using this,fun k hk hn=>by rw[Below.heap_setCell _ _ _ _ (fun e=>by have e':k=g:=e;omega)];exact h.block k hk hn⟩
structure EF (w0 w:World) (b eb rb:Nat) (x:JO) (cs:List Value) (o:Option (Nat×Nat)) (E:Ent) (W:World):Prop where
 rd:RdAt b cs o W
 eb:W.heap[eb]? =some (.cells (eCells E).toArray 64 (0,0))
 rb:W.heap[rb]? =some (.cells (eCells zeroE).toArray 64 (0,0))
 ext:Ext w0 W
 bar:Bar b w W
def reqF (x:JO) (s:ByteArray):Option (Nat×Nat):=if collapse s=noS then some (atJ x,19) else none
structure EC (w0 w:World) (N b eb rb:Nat) (x:JO) (cs:List Value):Prop where
 h:RJ w0 x cs
 hg:jsz N x
 hN:N≤16777216
 hE:Env w0
 hb0:w0.heap.size≤b
 h0w:w0.heap.size≤w.heap.size
 hbw:b<w.heap.size
 hew:w.heap.size≤eb
 hrw:w.heap.size≤rb
 hre:rb≠eb
section
variable {w0 w:World} {N b eb rb:Nat} {x:JO} {cs:List Value} {o:Option (Nat×Nat)} {E:Ent} {W:World}
theorem EF.next (H:EF w0 w b eb rb x cs o E W) {W':World} (hx:Ext W W'):EF w0 w b eb rb x cs o E W':=
 ⟨H.rd.ext hx,hx.heap H.eb,hx.heap H.rb,H.ext.trans hx,H.bar.trans (Bar.of hx)⟩
theorem EF.turn (C:EC w0 w N b eb rb x cs) (H:EF w0 w b eb rb x cs o E W) {W':World} {o':Option (Nat×Nat)} (hb:Bar b W W') (hr:RdAt b cs o' W'):EF w0 w b eb rb x cs o' E W':=
 ⟨hr,hb.heap H.eb (Nat.ne_of_gt (Nat.lt_of_lt_of_le C.hbw C.hew)),hb.heap H.rb (Nat.ne_of_gt (Nat.lt_of_lt_of_le C.hbw C.hrw)),Bar.ext H.ext hb C.hb0,H.bar.trans hb⟩
theorem EF.set (C:EC w0 w N b eb rb x cs) (H:EF w0 w b eb rb x cs o E W) (i:Nat) (v:Value) {E':Ent} (he:(eCells E).toArray.setIfInBounds i v=(eCells E').toArray):EF w0 w b eb rb x cs o E' (W.setCell ⟨eb,i,none⟩ v):=by
 have hbe:b≠eb:=Nat.ne_of_lt (Nat.lt_of_lt_of_le C.hbw C.hew)
 refine ⟨⟨?_,H.rd.2⟩,?_,?_,H.ext.setCell (p:=⟨eb,i,none⟩) (Nat.le_trans C.h0w C.hew) v,H.bar.trans' C.hew v⟩
 ·rw[heap_setCell_other _ _ _ _ hbe];exact H.rd.1
 ·rw[heap_setCell_same _ _ _ _ _ _ H.eb,he]
 ·rw[heap_setCell_other _ _ _ _ C.hre];exact H.rb
theorem EF.cell (H:EF w0 w b eb rb x cs o E W) (i:Nat) {v:Value} (h:(eCells E).toArray[i]? =some v):W.cell? ⟨eb,i,none⟩=some v∧W.frozen? ⟨eb,i,none⟩=false:=
 ⟨by rw[Lib.cell_of_heap H.eb];exact h,Lib.frozen_of_heap H.eb i⟩
theorem EF.lt (H:EF w0 w b eb rb x cs o E W):b<W.heap.size:=(Array.getElem?_eq_some_iff.1 H.rd.1).1
theorem get_new (C:EC w0 w N b eb rb x cs) (H:EF w0 w b eb rb x cs o E W) (name:ByteArray):
 Calls Tryz.prog 33 #[.pointer (some ⟨b,0,none⟩),.string name] W fun e w'=>GotM w0 (memJ x name) e∧Ext W w'∧EF w0 w b eb rb x cs o E w':=
 (rget_c x cs b o name w0 W C.h H.ext H.rd).mono fun _ _ ⟨h1,h2⟩=>⟨h1,h2,H.next h2⟩
theorem check_new (C:EC w0 w N b eb rb x cs) (H:EF w0 w b eb rb x cs o E W) (names:List ByteArray) (hn:names.length≤1000) (sb:Nat) (hsb:sb=W.heap.size):
 Calls Tryz.prog 28 #[.pointer (some ⟨b,0,none⟩),.slice (some ⟨sb,0,none⟩) names.length names.length] (W.alloc (.cells (names.map Value.string).toArray 9)) fun e w'=>e= .returned (.tuple #[])∧EF w0 w b eb rb x cs (orF o (chkJ x false names)) E w':=by
 subst hsb
 have H1:=H.next ((Ext.refl W).alloc (.cells (names.map Value.string).toArray 9))
 exact (check_any N x cs b W.heap.size o names w0 _ C.h C.hg C.hN C.hE H1.ext C.hb0 H1.rd (heap_alloc_new W _) (Nat.ne_of_gt H.lt) hn).mono fun _ _ ⟨h1,h2,h3⟩=>⟨h1,H1.turn C h3 h2⟩
theorem first_new (C:EC w0 w N b eb rb x cs) (H:EF w0 w b eb rb x cs o E W) (names:List ByteArray) (hn:names.length≤1000) (sb:Nat) (hsb:sb=W.heap.size):
 Calls Tryz.prog 29 #[.pointer (some ⟨b,0,none⟩),.slice (some ⟨sb,0,none⟩) names.length names.length] (W.alloc (.cells (names.map Value.string).toArray 9)) fun e w'=>e= .returned (.string (firstJ x names))∧EF w0 w b eb rb x cs o E w':=by
 subst hsb
 have H1:=H.next ((Ext.refl W).alloc (.cells (names.map Value.string).toArray 9))
 exact (first_any x cs b W.heap.size o names w0 _ C.h H1.ext H1.rd (heap_alloc_new W _) hn).mono fun _ _ ⟨h1,h2⟩=>⟨h1,H1.next h2⟩
theorem date_new (C:EC w0 w N b eb rb x cs) (H:EF w0 w b eb rb x cs o E W) (names:List ByteArray) (hn:names.length≤1000) (sb:Nat) (hsb:sb=W.heap.size):
 Calls Tryz.prog 32 #[.pointer (some ⟨b,0,none⟩),.slice (some ⟨sb,0,none⟩) names.length names.length] (W.alloc (.cells (names.map Value.string).toArray 9)) fun e w'=>∃t:Int,e= .returned (.int .i64 t)∧(∀v,dateJ x names= .ok v→t=v)∧EF w0 w b eb rb x cs (orF o (faultD (dateJ x names))) E w':=by
 subst hsb
 have H1:=H.next ((Ext.refl W).alloc (.cells (names.map Value.string).toArray 9))
 exact (date_any N x cs b W.heap.size o names w0 _ C.h C.hg C.hN H1.ext H1.rd (heap_alloc_new W _) (Nat.ne_of_gt H.lt) hn).mono fun _ _ ⟨⟨t,h1,h2⟩,h3,h4⟩=>⟨t,h1,h2,H1.turn C h4 h3⟩
theorem required_new (C:EC w0 w N b eb rb x cs) (H:EF w0 w b eb rb x cs o E W) (s:ByteArray) (hs:s.size≤16777216):
 Calls Tryz.prog 31 #[.pointer (some ⟨b,0,none⟩),.string s] W fun e w'=>e= .returned (.tuple #[])∧EF w0 w b eb rb x cs (orF o (reqF x s)) E w':=
 (required_any x cs b o s w0 W C.h H.ext H.rd hs).mono fun _ _ ⟨h1,h2,h3⟩=>⟨h1,H.turn C h3 h2⟩
end
end
def idS (x:JO):ByteArray:=match memJ x nId with
 |some (.int _ n)=>itoaS n
 |_=>firstJ x [nId]
def idF (x:JO):Option (Nat×Nat):=match memJ x nId with
 |some (.int _ _)=>none
 |_=>chkJ x false [nId]
def entF (x:JO):Option (Nat×Nat):=orF (if kindJ x≠5 then some (atJ x,21) else none) (orF (idF x) (orF (chkJ x false [nTitle,nUrl,nText,nHtml,nMod,nPub]) (orF (reqF x (idS x)) (faultD (dateJ x [nMod,nPub])))))
def EntR (x:JO) (E:Ent):Prop:=E.id=idS x∧E.title=firstJ x [nTitle]∧E.link=firstJ x [nUrl]∧E.content=firstJ x [nText,nHtml]∧∀t,dateJ x [nMod,nPub]= .ok t→E.upd=t
theorem firstJ_one (x:JO) (n:ByteArray):firstJ x [n]=match memJ x n with
 |some y=>sJ y
 |none=>noS:=rfl
theorem start0 {w0 w:World} {N b:Nat} {x:JO} {cs:List Value} {o:Option (Nat×Nat)} (h:RJ w0 x cs) (hg:jsz N x) (hN:N≤16777216) (hE:Env w0) (hx0:Ext w0 w) (hb0:w0.heap.size≤b) (hr:RdAt b cs o w):
 EC w0 w N b (w.heap.size+1) w.heap.size x cs∧EF w0 w b (w.heap.size+1) w.heap.size x cs o zeroE ((w.alloc (.cells (eCells zeroE).toArray 64)).alloc (.cells (eCells zeroE).toArray 64)):=by
 have hblt:b<w.heap.size:=(Array.getElem?_eq_some_iff.1 hr.1).1
 have hx:Ext w ((w.alloc (.cells (eCells zeroE).toArray 64)).alloc (.cells (eCells zeroE).toArray 64)):=((Ext.refl w).alloc _).alloc _
 exact ⟨⟨h,hg,hN,hE,hb0,hx0.size,hblt,by omega,Nat.le_refl _,by omega⟩,⟨hr.ext hx,heap2b w _ _,((Ext.refl _).alloc _).heap (heap_alloc_new w _),hx0.trans hx,Bar.of hx⟩⟩
theorem start1 {w0 w wa:World} {N b:Nat} {x:JO} {cs:List Value} {o:Option (Nat×Nat)} (h:RJ w0 x cs) (hg:jsz N x) (hN:N≤16777216) (hE:Env w0) (hx0:Ext w0 w) (hb0:w0.heap.size≤b) (hbw:b<w.heap.size) (hr:RdAt b cs o wa) (hba:Bar b (w.alloc (.cells (eCells zeroE).toArray 64)) wa):
 EC w0 w N b wa.heap.size w.heap.size x cs∧EF w0 w b wa.heap.size w.heap.size x cs o zeroE (wa.alloc (.cells (eCells zeroE).toArray 64)):=by
 have hs:w.heap.size+1≤wa.heap.size:=by have:=hba.size;rwa [size_alloc] at this
 have hb1:Bar b w wa:=(Bar.of ((Ext.refl w).alloc _)).trans hba
 have hx:Ext wa (wa.alloc (.cells (eCells zeroE).toArray 64)):=(Ext.refl wa).alloc _
 exact ⟨⟨h,hg,hN,hE,hb0,hx0.size,hbw,by omega,Nat.le_refl _,by omega⟩,⟨hr.ext hx,heap_alloc_new wa _,hx.heap (hba.heap (heap_alloc_new w _) (Nat.ne_of_gt hbw)),(Bar.ext hx0 hb1 hb0).trans hx,hb1.trans (Bar.of hx)⟩⟩
theorem entry_none (N:Nat) (x:JO) (cs:List Value) (b:Nat) (o:Option (Nat×Nat)) (w0 w:World) (h:RJ w0 x cs) (hg:jsz N x) (hN:N≤16777216) (hE:Env w0) (hx0:Ext w0 w) (hb0:w0.heap.size≤b) (hr:RdAt b cs o w) (h5:kindJ x=5) (hm:memJ x nId=none):
 Calls Tryz.prog 35 #[.pointer (some ⟨b,0,none⟩)] w fun e w'=>∃E:Ent,e= .returned (.agg (eCells E).toArray)∧EntR x E∧RdAt b cs (orF o (entF x)) w'∧Bar b w w':=by
 obtain ⟨C,H0⟩:=start0 h hg hN hE hx0 hb0 hr
 have hid:idS x=firstJ x [nId]:=by unfold idS;rw[hm]
 have hif:idF x=chkJ x false [nId]:=by unfold idF;rw[hm]
 have hids:(firstJ x [nId]).size≤16777216:=by rw[firstJ_one,hm];exact Nat.zero_le _
 have c0:(w.alloc (.cells #[.string ⟨#[]⟩,.string ⟨#[]⟩,.string ⟨#[]⟩,.string ⟨#[]⟩,.int .i64 0] 64)).cell? ⟨b,0,none⟩=some (.int .i64 5):=by
  obtain ⟨A,p,c,B,q,d,hc⟩:=h.cells
  have hk:=hr.1
  rw[hc] at hk
  rw[Ext.cell ((Ext.refl w).alloc _) (cell_of_row _ _ 0 _ _ _ hk:w.cell? ⟨b,0,none⟩=some (.int .i64 (kindJ x:Nat))),h5]
  rfl
 have hfin:entF x=orF (chkJ x false [nId]) (orF (chkJ x false [nTitle,nUrl,nText,nHtml,nMod,nPub]) (orF (reqF x (firstJ x [nId])) (faultD (dateJ x [nMod,nPub])))):=by
  unfold entF
  rw[if_neg (by omega),hid,hif]
  rfl
 rw[hfin]
 have HID:=gd hid
 clear hfin hif hid h5
 go_enter Tryz.func35,Tryz.ntmps35
 go_wp2_with (first|(refine wpList_store_row rfl 64 (.tmp 2) (.tmp 64) rfl w.heap.size _ rfl rfl _ _ HFd.rb size_ent rfl (oneA (eCells_one ⟨firstJ x [nId],firstJ x [nTitle],firstJ x [nUrl],firstJ x [nText,nHtml],t⟩)) ?_)|(go_at_call 32;(refine Calls.mono (date_new C HFc [nMod,nPub] (by decide) _ (by first|rfl|exact (size_alloc _ _).symm|(simp;done))) ?_);rintro e w10 ⟨t,rfl,ht,HF10⟩;(have g5:=(HF10.cell 4 rfl).1);(have g5f:=(HF10.cell 4 rfl).2);(have HFd:=HF10.set C 4 (.int .i64 t) (E':=⟨firstJ x [nId],firstJ x [nTitle],firstJ x [nUrl],firstJ x [nText,nHtml],t⟩) rfl);(have r0:=(HFd.cell 0 rfl).1);(have r1:=(HFd.cell 1 rfl).1);(have r2:=(HFd.cell 2 rfl).1);(have r3:=(HFd.cell 3 rfl).1);(have r4:=(HFd.cell 4 rfl).1))|(go_at_call 29;(refine Calls.mono (first_new C HF8 [nText,nHtml] (by decide) _ (by first|rfl|exact (size_alloc _ _).symm|(simp;done))) ?_);rintro e w9 ⟨rfl,HF9⟩;(have HFa:=HF9.set C 1 (.string (firstJ x [nTitle])) (E':=⟨firstJ x [nId],firstJ x [nTitle],noS,noS,0⟩) rfl);(have HFb:=HFa.set C 2 (.string (firstJ x [nUrl])) (E':=⟨firstJ x [nId],firstJ x [nTitle],firstJ x [nUrl],noS,0⟩) rfl);(have HFc:=HFb.set C 3 (.string (firstJ x [nText,nHtml])) (E':=⟨firstJ x [nId],firstJ x [nTitle],firstJ x [nUrl],firstJ x [nText,nHtml],0⟩) rfl);(have g2:=(HF9.cell 1 rfl).1);(have g2f:=(HF9.cell 1 rfl).2);(have g3:=(HFa.cell 2 rfl).1);(have g3f:=(HFa.cell 2 rfl).2);(have g4:=(HFb.cell 3 rfl).1);(have g4f:=(HFb.cell 3 rfl).2))|(go_at_call 29;(refine Calls.mono (first_new C HF7 [nUrl] (by decide) _ (by first|rfl|exact (size_alloc _ _).symm|(simp;done))) ?_);rintro e w8 ⟨rfl,HF8⟩)|(go_at_call 29;(refine Calls.mono (first_new C HF6 [nTitle] (by decide) _ (by first|rfl|exact (size_alloc _ _).symm|(simp;done))) ?_);rintro e w7 ⟨rfl,HF7⟩)|(go_at_call 31;(refine Calls.mono (required_new C HF5 _ hids) ?_);rintro e w6 ⟨rfl,HF6⟩)|(go_at_call 28;(refine Calls.mono (check_new C HFi [nTitle,nUrl,nText,nHtml,nMod,nPub] (by decide) _ (by first|rfl|exact (size_alloc _ _).symm|(simp;done))) ?_);rintro e w5 ⟨rfl,HF5⟩;(have g1:=(HF5.cell 0 rfl).1);(have g1f:=(HF5.cell 0 rfl).2))|(go_at_call 29;(refine Calls.mono (first_new C HF3 [nId] (by decide) _ (by first|rfl|exact (size_alloc _ _).symm|(simp;done))) ?_);rintro e w4 ⟨rfl,HF4⟩;(have g0:=(HF4.cell 0 rfl).1);(have g0f:=(HF4.cell 0 rfl).2);(have HFi:=HF4.set C 0 (.string (firstJ x [nId])) (E':=⟨firstJ x [nId],noS,noS,noS,0⟩) rfl))|(go_at_call 28;(refine Calls.mono (check_new C (HF2.next ((Ext.refl w2).alloc _)) [nId] (by decide) _ (by first|rfl|exact (size_alloc _ _).symm|(simp;done))) ?_);rintro e w3 ⟨rfl,HF3⟩)|(go_at_call 33;(refine Calls.mono (get_new C H0 nId) ?_);rintro e w2 ⟨⟨y,cy,rfl,hry,hmy⟩,hx2,HF2⟩;(rw[hm]);(obtain ⟨A1,p1,q1,B1,p2,q2,hc⟩:=hry.cells);(unfold wcells at hc);(generalize kindJ y=K,bJ y=Bb,nJ y=Nn,sJ y=Ss,atJ y=At at hc);subst hc))
 ((try simp only[Exit.inBlock,Exit.then]);refine bodyPost_ret (results_cell_row rfl _ _ _ _ _ _ _ rfl (setRow_heap _ _ _ _ _ _ HFd.rb) Tryz.underlying64 rfl size_ent) rfl ?_)
 refine ⟨⟨firstJ x [nId],firstJ x [nTitle],firstJ x [nUrl],firstJ x [nText,nHtml],t⟩,rfl,⟨HID.out.symm,rfl,rfl,rfl,ht⟩,?_,?_⟩
 ·have hrd:=HFd.rd
  simp only[orF_assoc] at hrd
  exact ⟨by rw[setRow_other _ _ _ _ (Nat.ne_of_lt (Nat.lt_of_lt_of_le C.hbw C.hrw))];exact hrd.1,hrd.2⟩
 ·exact ⟨HFd.bar.os,HFd.bar.tape,HFd.bar.output,by have:=HFd.bar.size;simpa [World.setRow] using this,fun k hk hn=>by rw[setRow_other _ _ _ _ (Nat.ne_of_lt hk)];exact HFd.bar.block k hk hn⟩
theorem entry_int (N:Nat) (x:JO) (cs:List Value) (b:Nat) (o:Option (Nat×Nat)) (w0 w:World) (h:RJ w0 x cs) (hg:jsz N x) (hN:N≤16777216) (hE:Env w0) (hx0:Ext w0 w) (hb0:w0.heap.size≤b) (hr:RdAt b cs o w) (h5:kindJ x=5) (ia:Nat) (n:Int) (hm:memJ x nId=some (.int ia n)):
 Calls Tryz.prog 35 #[.pointer (some ⟨b,0,none⟩)] w fun e w'=>∃E:Ent,e= .returned (.agg (eCells E).toArray)∧EntR x E∧RdAt b cs (orF o (entF x)) w'∧Bar b w w':=by
 obtain ⟨C,H0⟩:=start0 h hg hN hE hx0 hb0 hr
 have hid:idS x=itoaS n:=by unfold idS;rw[hm]
 have hif:idF x=none:=by unfold idF;rw[hm]
 have hn64:i64ok n:=by
  have:=memJ_good hg hm
  rw[jsz] at this
  exact this
 have hids:(itoaS n).size≤16777216:=by
  have h21:(itoaS n).size≤21:=by unfold itoaS;rw[str_size];exact Lib.itoa_length_le n hn64.1 hn64.2
  omega
 have c0:(w.alloc (.cells #[.string ⟨#[]⟩,.string ⟨#[]⟩,.string ⟨#[]⟩,.string ⟨#[]⟩,.int .i64 0] 64)).cell? ⟨b,0,none⟩=some (.int .i64 5):=by
  obtain ⟨A,p,c,B,q,d,hc⟩:=h.cells
  have hk:=hr.1
  rw[hc] at hk
  rw[Ext.cell ((Ext.refl w).alloc _) (cell_of_row _ _ 0 _ _ _ hk:w.cell? ⟨b,0,none⟩=some (.int .i64 (kindJ x:Nat))),h5]
  rfl
 have hfin:entF x=orF (chkJ x false [nTitle,nUrl,nText,nHtml,nMod,nPub]) (orF (reqF x (itoaS n)) (faultD (dateJ x [nMod,nPub]))):=by
  unfold entF
  rw[if_neg (by omega),hid,hif]
  rfl
 rw[hfin]
 have HID:=gd hid
 clear hfin hif hid h5
 go_enter Tryz.func35,Tryz.ntmps35
 go_wp2_with (first|(refine wpList_store_row rfl 64 (.tmp 2) (.tmp 64) rfl w.heap.size _ rfl rfl _ _ HFd.rb size_ent rfl (oneA (eCells_one ⟨itoaS n,firstJ x [nTitle],firstJ x [nUrl],firstJ x [nText,nHtml],t⟩)) ?_)|(go_at_call 32;(refine Calls.mono (date_new C HFc [nMod,nPub] (by decide) _ (by first|rfl|exact (size_alloc _ _).symm|(simp;done))) ?_);rintro e w10 ⟨t,rfl,ht,HF10⟩;(have g5:=(HF10.cell 4 rfl).1);(have g5f:=(HF10.cell 4 rfl).2);(have HFd:=HF10.set C 4 (.int .i64 t) (E':=⟨itoaS n,firstJ x [nTitle],firstJ x [nUrl],firstJ x [nText,nHtml],t⟩) rfl);(have r0:=(HFd.cell 0 rfl).1);(have r1:=(HFd.cell 1 rfl).1);(have r2:=(HFd.cell 2 rfl).1);(have r3:=(HFd.cell 3 rfl).1);(have r4:=(HFd.cell 4 rfl).1))|(go_at_call 29;(refine Calls.mono (first_new C HF8 [nText,nHtml] (by decide) _ (by first|rfl|exact (size_alloc _ _).symm|(simp;done))) ?_);rintro e w9 ⟨rfl,HF9⟩;(have HFa:=HF9.set C 1 (.string (firstJ x [nTitle])) (E':=⟨itoaS n,firstJ x [nTitle],noS,noS,0⟩) rfl);(have HFb:=HFa.set C 2 (.string (firstJ x [nUrl])) (E':=⟨itoaS n,firstJ x [nTitle],firstJ x [nUrl],noS,0⟩) rfl);(have HFc:=HFb.set C 3 (.string (firstJ x [nText,nHtml])) (E':=⟨itoaS n,firstJ x [nTitle],firstJ x [nUrl],firstJ x [nText,nHtml],0⟩) rfl);(have g2:=(HF9.cell 1 rfl).1);(have g2f:=(HF9.cell 1 rfl).2);(have g3:=(HFa.cell 2 rfl).1);(have g3f:=(HFa.cell 2 rfl).2);(have g4:=(HFb.cell 3 rfl).1);(have g4f:=(HFb.cell 3 rfl).2))|(go_at_call 29;(refine Calls.mono (first_new C HF7 [nUrl] (by decide) _ (by first|rfl|exact (size_alloc _ _).symm|(simp;done))) ?_);rintro e w8 ⟨rfl,HF8⟩)|(go_at_call 29;(refine Calls.mono (first_new C HF6 [nTitle] (by decide) _ (by first|rfl|exact (size_alloc _ _).symm|(simp;done))) ?_);rintro e w7 ⟨rfl,HF7⟩)|(go_at_call 31;(refine Calls.mono (required_new C HF5 _ hids) ?_);rintro e w6 ⟨rfl,HF6⟩)|(go_at_call 28;(refine Calls.mono (check_new C HFi [nTitle,nUrl,nText,nHtml,nMod,nPub] (by decide) _ (by first|rfl|exact (size_alloc _ _).symm|(simp;done))) ?_);rintro e w5 ⟨rfl,HF5⟩;(have g1:=(HF5.cell 0 rfl).1);(have g1f:=(HF5.cell 0 rfl).2))|(go_at_call 72;(refine Calls.mono (formatInt_any n _ (hE.ext (HF2.next ((Ext.refl w2).alloc _)).ext) hn64) ?_);rintro e w4 ⟨rfl,hx4⟩;(have HF4:=(HF2.next ((Ext.refl w2).alloc _)).next hx4);(have g0:=(HF4.cell 0 rfl).1);(have g0f:=(HF4.cell 0 rfl).2);(have HFi:=HF4.set C 0 (.string (itoaS n)) (E':=⟨itoaS n,noS,noS,noS,0⟩) rfl))|(go_at_call 33;(refine Calls.mono (get_new C H0 nId) ?_);rintro e w2 ⟨⟨y,cy,rfl,hry,hmy⟩,hx2,HF2⟩;(rw[hm] at hmy);(rw[hm]);(obtain rfl:JO.int ia n=y:=by rcases hmy with hmy|hmy;(injection hmy);(cases hmy.1));(obtain ⟨A1,p1,q1,B1,p2,q2,hc⟩:=hry.cells);(replace hc:cy= [.int .i64 2,.bool false,.int .i64 n,.string ⟨#[]⟩,.slice A1 p1 q1,.slice B1 p2 q2,.int .i64 (ia:Nat)]:=hc);subst hc))
 ((try simp only[Exit.inBlock,Exit.then]);refine bodyPost_ret (results_cell_row rfl _ _ _ _ _ _ _ rfl (setRow_heap _ _ _ _ _ _ HFd.rb) Tryz.underlying64 rfl size_ent) rfl ?_)
 refine ⟨⟨itoaS n,firstJ x [nTitle],firstJ x [nUrl],firstJ x [nText,nHtml],t⟩,rfl,⟨HID.out.symm,rfl,rfl,rfl,ht⟩,?_,?_⟩
 ·have hrd:=HFd.rd
  simp only[orF_assoc] at hrd
  exact ⟨by rw[setRow_other _ _ _ _ (Nat.ne_of_lt (Nat.lt_of_lt_of_le C.hbw C.hrw))];exact hrd.1,hrd.2⟩
 ·exact ⟨HFd.bar.os,HFd.bar.tape,HFd.bar.output,by have:=HFd.bar.size;simpa [World.setRow] using this,fun k hk hn=>by rw[setRow_other _ _ _ _ (Nat.ne_of_lt hk)];exact HFd.bar.block k hk hn⟩
end Go.Proofs.YthlnaldahkgjnaaGreatDoor
