/- Parts of the proof: contracts and plain laws. -/
import Derived.Test.YthlnaldahkgjnaaGreatDoorY12
namespace Go.Proofs.YthlnaldahkgjnaaGreatDoor
open Go Go.RowKit
set_option linter.unusedVariables false
set_option linter.unusedSimpArgs false
set_option maxRecDepth 100000
set_option maxHeartbeats 16000000
section
set_option linter.unusedSimpArgs false
def sepB (l:List UInt8) (i:Nat) (c:Nat):Bool:=match l[i]? with
 |some x=>decide (x.toNat=c)||(decide (c=116) && decide (x.toNat=84))
 |none=>false
def grpG (l:List UInt8) (bt:List Nat):List Nat→Nat→Nat→Option (List Nat×Nat)
 | [],_,a=>some ([],a)
 |w::ws,0,a=>match numP l a w with
  |some n=>(grpG l bt ws 1 (a+w)).map fun p=>(n::p.1,p.2)
  |none=>none
 |w::ws,i+1,a=>if sepB l a (bt.getD i 0) then match numP l (a+1) w with
  |some n=>(grpG l bt ws (i+2) (a+1+w)).map fun p=>(n::p.1,p.2)
  |none=>none
  else none
def ints (l:List Nat):List Value:=l.map fun n=> .int .i64 (n:Nat)
theorem ints_len (l:List Nat):(ints l).length=l.length:=by simp[ints]
def OI (w:World) (B:Nat) (v:Value) (l:List Nat):Prop:=w.ownsRow B 3 1 v l.length (ints l)
theorem OI.of {w:World} {B n:Nat} {v:Value} {xs:List Value} {l:List Nat} (h:w.ownsRow B 3 1 v n xs) (hx:xs=ints l):OI w B v l:=by
 subst hx
 have:=h.1
 rw[ints_len,Nat.mul_one] at this
 subst this
 exact h
theorem OI.ext {w w':World} {B:Nat} {v:Value} {l:List Nat} (h:OI w B v l) (hx:Ext w w'):OI w' B v l:=own_ext h hx
theorem info_int:(Tryz.prog.info? 3).map (fun i=>(i.zero,i.size,i.bytes))=some (some (.int .i64 0),1,8):=by kernel_rfl
theorem extract_from (s:ByteArray) (k:Nat) (h:k≤s.size):s.extract k s.size=str (s.data.toList.drop k):=by
 refine bytes_inj ?_
 have:=extract_take s k (s.size - k)
 rw[show k+(s.size - k)=s.size by omega] at this
 rw[this,str_list,List.take_of_length_le]
 rw[List.length_drop,data_len];exact Nat.le_refl _
theorem extract_to (s:ByteArray) (k:Nat):s.extract 0 k=str (s.data.toList.take k):=by
 refine bytes_inj ?_
 have:=extract_take s 0 k
 rw[Nat.zero_add] at this
 rw[this,str_list,List.drop_zero]
theorem from_in (s:ByteArray) (k:Nat) (h:k≤s.size) (wx:World):
 (Instr.slice 9 (.string s) (some (.int .i64 (k:Nat))) none none).run Tryz.prog wx= .ok (.string (str (s.data.toList.drop k))) wx:=by
 rw[run_slice_string_from_if (P:=Tryz.prog) (w:=wx) 9 s .i64 _ Tryz.underlying9,if_pos (by omega),Int.toNat_natCast,extract_from s k h]
theorem to_in (s:ByteArray) (k:Nat) (h:k≤s.size) (wx:World):
 (Instr.slice 9 (.string s) none (some (.int .i64 (k:Nat))) none).run Tryz.prog wx= .ok (.string (str (s.data.toList.take k))) wx:=by
 rw[run_slice_string_to_if (P:=Tryz.prog) (w:=wx) 9 s .i64 _ Tryz.underlying9,if_pos (by omega),Int.toNat_natCast,extract_to]
def GrpR (w0:World) (S:ByteArray) (o:Option (List Nat×Nat)) (e:Ending) (w':World):Prop:=match o with
 |some (ns,a)=>∃v,e= .returned (.tuple #[v,.string (str (S.data.toList.drop a)),.bool true])∧OI w' w0.heap.size v ns
 |none=>e= .returned (.tuple #[.slice none 0 0,.string ⟨#[]⟩,.bool false])
def grpA (acc:List Nat) (o:Option (List Nat×Nat)):Option (List Nat×Nat):=o.map fun p=>(acc++p.1,p.2)
theorem grpA_cons (acc:List Nat) (n:Nat) (o:Option (List Nat×Nat)):grpA acc (o.map fun p=>(n::p.1,p.2))=grpA (acc++ [n]) o:=by
 cases o<;>simp[grpA]
theorem groups_any (S bt:ByteArray) (ws:List Nat) (V:Value) (w:World) (hS:S.size≤16777216) (hV:RSl w 1 V ws.length (ints ws)) (hb:ws.length≤bt.size+1) (hw:∀x∈ws,0<x∧x≤4) (hn:ws.length≤10) (hbs:bt.size≤10):
 Calls Tryz.prog 117 #[.string S,.string bt,V] w fun e w'=>GrpR w S (grpG S.data.toList (bt.data.toList.map UInt8.toNat) ws 0 0) e w'∧Ext w w':=by
 obtain ⟨i0,hi0,hz0,hz1,hz2⟩:=info_parts info_int
 obtain ⟨_,A,c,rfl,hmc,hcm,_,_⟩:=id hV
 obtain ⟨R,hR⟩:∃R,grpG S.data.toList (bt.data.toList.map UInt8.toNat) ws 0 0=R:=⟨_,rfl⟩
 rw[hR]
 have HV:=gd hV
 have HW:=gd hw
 have HR:Hid (grpA [] (grpG S.data.toList (bt.data.toList.map UInt8.toNat) ws 0 0)=R):=by show _=_;rw[hR];cases R<;>rfl
 clear hV hw hR hmc hcm
 go_enter Tryz.func117,Tryz.ntmps117
 go_wp2
 go_loopw [0,9,18] (fun t l i wr=>∃(k a:Nat) (acc:List Nat),k≤ws.length∧a≤S.size∧t= .string (str (S.data.toList.drop a))∧i= .int .i64 (k:Nat)∧OI wr w.heap.size l acc∧acc.length=k∧Hid (grpA acc (grpG S.data.toList (bt.data.toList.map UInt8.toNat) (ws.drop k) k a)=R)∧Ext w wr) (fun _ _ i _=>ws.length - (intOf i).toNat)
 case atStart=>exact ⟨0,0,[],by omega,by omega,by rw[List.drop_zero,str_of],rfl,World.ownsRow_nil _ _ _ _,rfl,HR,Ext.refl _⟩
 case round=>
  obtain ⟨k,a,acc,hk,ha,rfl,rfl,ho,hac,hg,hx⟩:=hrel
  have hl10:acc.length≤10:=by rw[hac];omega
  have HAC:=gd hac
  clear hac
  obtain ⟨oA,oc,hoo, -, -⟩:=(RSl.of_own ho).2
  subst hoo
  have hsz:(str (S.data.toList.drop a)).size=S.size - a:=by rw[str_size,List.length_drop,data_len]
  have htl:(str (S.data.toList.drop a)).data.toList=S.data.toList.drop a:=str_list _
  obtain ⟨T,hT⟩:∃T,str (S.data.toList.drop a)=T:=⟨_,rfl⟩
  rw[hT] at hsz htl
  simp only[hT]
  by_cases hlt:k<ws.length
  ·obtain ⟨ad,hadd,hcell⟩:=(HV.out.ext hx).at1 k (.int .i64 (ws[k]:Nat)) (by rw[ints,List.getElem?_map,List.getElem?_eq_getElem hlt];rfl)
   subst hadd
   obtain ⟨hw1,hw4⟩:=HW.out ws[k] (List.getElem_mem _)
   rw[List.drop_eq_getElem_cons hlt] at hg
   obtain ⟨W,hW⟩:∃W,ws[k]=W:=⟨_,rfl⟩
   rw[hW] at hcell hw1 hw4 hg
   have key:(∃n,k=n+1∧sepB S.data.toList a ((bt.data.toList.map UInt8.toNat).getD n 0)=false)∨
    (∃a1,a1≤S.size∧(k=0∧a1=a∨∃n,k=n+1∧a1=a+1∧sepB S.data.toList a ((bt.data.toList.map UInt8.toNat).getD n 0)=true)∧grpA acc (match numP S.data.toList a1 W with
     |some n=>(grpG S.data.toList (bt.data.toList.map UInt8.toNat) (ws.drop (k+1)) (k+1) (a1+W)).map fun p=>(n::p.1,p.2)
     |none=>none)=R):=by
    cases k with
    |zero=>exact Or.inr ⟨a,ha,Or.inl ⟨rfl,rfl⟩,hg.out⟩
    |succ n=>
     cases hsep:sepB S.data.toList a ((bt.data.toList.map UInt8.toNat).getD n 0) with
     |false=>exact Or.inl ⟨n,rfl,hsep⟩
     |true=>
      have hal:a<S.data.toList.length:=by
       rcases Nat.lt_or_ge a S.data.toList.length with h|h
       ·exact h
       ·unfold sepB at hsep;rw[List.getElem?_eq_none h] at hsep;cases hsep
      rw[data_len] at hal
      refine Or.inr ⟨a+1,hal,Or.inr ⟨n,rfl,rfl,hsep⟩,?_⟩
      have h1:=hg.out
      rw[grpG,if_pos hsep] at h1
      exact h1
   have HHV:=HV
   have HX:=gd hx
   have HO:=gd ho
   have hwi:((W:Nat):Int)≤4:=by omega
   rcases key with ⟨n,rfl,hsep⟩|⟨a1,ha1,hway,hres⟩
   ·have hRn:Hid (R=none):=by
     show _=_
     rw[←hg.out,grpG,hsep];rfl
    have hnb:n<bt.size:=by omega
    have hki:((n+1:Nat):Int) - 1=(n:Int):=by omega
    have hk0:(0:Int)<((n+1:Nat):Int):=by omega
    have hb0:(0:Int)≤(n:Int):=by omega
    have hb1:(n:Int)<(bt.size:Int):=by omega
    have hgd:(bt.data.toList.map UInt8.toNat).getD n 0=(bt[n]'hnb).toNat:=by
     rw[List.getD_eq_getElem?_getD,List.getElem?_map,List.getElem?_eq_getElem (by rw[data_len];exact hnb)];rfl
    rw[hgd] at hsep
    obtain ⟨C,hC⟩:∃C,(bt[n]'hnb).toNat=C:=⟨_,rfl⟩
    have hCi:(((bt[n]'hnb).toNat:Nat):Int)=(C:Int):=by rw[hC]
    rw[hC] at hsep
    by_cases hal:a<S.size
    ·have hT0:0<T.size:=by omega
     have hte:T.toList.isEmpty=false:=by
      rw[←Bool.not_eq_true,List.isEmpty_iff]
      intro h
      have:=congrArg List.length h
      rw[show T.toList=T.data.toList from ByteArray.toList_eq _,data_len,List.length_nil] at this
      omega
     have hx0:(T[0]'hT0).toNat=(S.data.toList[a]'(by rw[data_len];exact hal)).toNat:=by
      have h1:T.data.toList[0]? =S.data.toList[a]?:=by rw[htl,List.getElem?_drop,Nat.add_zero]
      rw[List.getElem?_eq_getElem (by rw[data_len];exact hT0),List.getElem?_eq_getElem (by rw[data_len];exact hal)] at h1
      injection h1 with h1
      rw[←h1];rfl
     unfold sepB at hsep
     rw[List.getElem?_eq_getElem (by rw[data_len];exact hal)] at hsep
     simp only[←hx0] at hsep
     obtain ⟨x,hxx⟩:∃x,(T[0]'hT0).toNat=x:=⟨_,rfl⟩
     rw[hxx] at hsep
     have hxi:(((T[0]'hT0).toNat:Nat):Int)=(x:Int):=by rw[hxx]
     simp only[Bool.or_eq_false_iff,Bool.and_eq_false_iff,decide_eq_false_iff_not] at hsep
     obtain ⟨n1,n2⟩:=hsep
     have m1:¬(x:Int)=(C:Int):=by omega
     have hTi:(0:Int)<(T.size:Int):=by omega
     rw[show ((n+1:Nat):Int)=(n:Int)+1 by omega] at hki hk0
     simp only[show ((n+1:Nat):Int)=(n:Int)+1 by omega]
     rw[show ad.add (n+1)=⟨ad.block,ad.off+(n+1),none⟩ from if_neg (by omega)] at hcell
     have hlti:(n:Int)+1<(ws.length:Int):=by omega
     clear hg ho hx hgd hsz htl hx0
     have m1:((x:Int) !=(C:Int))=true:=by rw[bne_iff_ne];omega
     by_cases hC6:C=116
     ·have m2:((x:Int) !=84)=true:=by rw[bne_iff_ne];omega
      subst hC6
      have m1:((x:Int) !=116)=true:=by rw[bne_iff_ne];omega
      clear n1 n2
      go_wp2
      go_ret3
      exact ⟨by rw[hRn.out];rfl,HX.out⟩
     ·have m3:((C:Int) !=116)=true:=by rw[bne_iff_ne];omega
      clear n1 n2
      go_wp2
      go_ret3
      exact ⟨by rw[hRn.out];rfl,HX.out⟩
    ·have hte:T.toList.isEmpty=true:=by
      rw[List.isEmpty_iff]
      refine List.eq_nil_of_length_eq_zero ?_
      rw[show T.toList=T.data.toList from ByteArray.toList_eq _,data_len]
      omega
     rw[show ((n+1:Nat):Int)=(n:Int)+1 by omega] at hki hk0
     simp only[show ((n+1:Nat):Int)=(n:Int)+1 by omega]
     rw[show ad.add (n+1)=⟨ad.block,ad.off+(n+1),none⟩ from if_neg (by omega)] at hcell
     have hlti:(n:Int)+1<(ws.length:Int):=by omega
     clear hg ho hx hgd hsz htl hsep
     go_wp2
     go_ret3
     exact ⟨by rw[hRn.out];rfl,HX.out⟩
   ·obtain ⟨T1,hTe⟩:∃T1:ByteArray,str (S.data.toList.drop a1)=T1:=⟨_,rfl⟩
    have hT1:T1.data.toList=S.data.toList.drop a1:=by rw[←hTe];exact str_list _
    have hs1:T1.size=S.size - a1:=by rw[←hTe,str_size,List.length_drop,data_len]
    have hsi1:(T1.size:Int)≤16777216:=by omega
    have ways:(k=0∧T=T1)∨(∃n,k=n+1∧∃(hT0:0<T.size) (hnb:n<bt.size),(∀wx,(Instr.slice 9 (.string T) (some (.int .i64 1)) none none).run Tryz.prog wx= .ok (.string T1) wx)∧
     ((T[0]'hT0).toNat=(bt[n]'hnb).toNat∨((bt[n]'hnb).toNat=116∧(T[0]'hT0).toNat=84))):=by
     rcases hway with ⟨rfl,rfl⟩|⟨n,rfl,rfl,hsep⟩
     ·exact Or.inl ⟨rfl,by rw[←hT,←hTe]⟩
     ·have hal:a<S.size:=ha1
      have hT0:0<T.size:=by omega
      have hnb:n<bt.size:=by omega
      refine Or.inr ⟨n,rfl,hT0,hnb,fun wx=> ?_,?_⟩
      ·have:=from_in T 1 (by omega) wx
       rw[show ((1:Nat):Int)=1 from rfl,htl,List.drop_drop,hTe] at this
       exact this
      ·have hgd:(bt.data.toList.map UInt8.toNat).getD n 0=(bt[n]'hnb).toNat:=by
        rw[List.getD_eq_getElem?_getD,List.getElem?_map,List.getElem?_eq_getElem (by rw[data_len];exact hnb)];rfl
       have hx0:(T[0]'hT0).toNat=(S.data.toList[a]'(by rw[data_len];exact hal)).toNat:=by
        have h1:T.data.toList[0]? =S.data.toList[a]?:=by rw[htl,List.getElem?_drop,Nat.add_zero]
        rw[List.getElem?_eq_getElem (by rw[data_len];exact hT0),List.getElem?_eq_getElem (by rw[data_len];exact hal)] at h1
        injection h1 with h1
        rw[←h1];rfl
       rw[hgd] at hsep
       unfold sepB at hsep
       rw[List.getElem?_eq_getElem (by rw[data_len];exact hal)] at hsep
       simp only[←hx0,Bool.or_eq_true,Bool.and_eq_true,decide_eq_true_eq] at hsep
       exact hsep
    obtain ⟨kv,hkv⟩:∃kv,kv=k:=⟨k,rfl⟩
    rw[←hkv] at hres HAC
    have HRES:=gd hres
    have HKV:=gd hkv
    have hkl:kv+1≤ws.length:=by omega
    clear hkv
    clear hway hres hg ho hx hTe hsz htl hT
    by_cases hshort:T1.size<W
    ·have hRn:Hid (R=none):=by
      show _=_
      rw[←HRES.out,numP_short (by rw[data_len];omega) hw1];rfl
     have q1:(T1.size:Int)<(W:Int):=by omega
     clear hs1 hT1
     rcases ways with ⟨rfl,rfl⟩|⟨n,rfl,hT0,hnb,hsl,hch⟩
     ·rw[add_zero] at hcell
      rw[show ((0:Nat):Int)=0 from rfl]
      have hlti:(0:Int)<(ws.length:Int):=by omega
      go_wp2
      go_ret3
      exact ⟨by rw[hRn.out];rfl,HX.out⟩
     ·have hki:(n:Int)+1 - 1=(n:Int):=by omega
      have hk0:(0:Int)<(n:Int)+1:=by omega
      have hb0:(0:Int)≤(n:Int):=by omega
      have hb1:(n:Int)<(bt.size:Int):=by omega
      have hTi:(0:Int)<(T.size:Int):=by omega
      have hlti:(n:Int)+1<(ws.length:Int):=by omega
      have hte:T.toList.isEmpty=false:=by
       rw[←Bool.not_eq_true,List.isEmpty_iff]
       intro h
       have:=congrArg List.length h
       rw[show T.toList=T.data.toList from ByteArray.toList_eq _,data_len,List.length_nil] at this
       omega
      simp only[show ((n+1:Nat):Int)=(n:Int)+1 by omega]
      rw[show ad.add (n+1)=⟨ad.block,ad.off+(n+1),none⟩ from if_neg (by omega)] at hcell
      obtain ⟨C,hC⟩:∃C,(bt[n]'hnb).toNat=C:=⟨_,rfl⟩
      obtain ⟨x,hxx⟩:∃x,(T[0]'hT0).toNat=x:=⟨_,rfl⟩
      have hCi:(((bt[n]'hnb).toNat:Nat):Int)=(C:Int):=by rw[hC]
      have hxi:(((T[0]'hT0).toNat:Nat):Int)=(x:Int):=by rw[hxx]
      rw[hC,hxx] at hch
      clear hC hxx
      have hch2:(((x:Int) !=(C:Int))=false∧x=C)∨(((x:Int) !=(C:Int))=true∧C=116∧x=84):=by
       rcases hch with h|⟨h1,h2⟩
       ·exact Or.inl ⟨by simp[h],h⟩
       ·exact Or.inr ⟨by rw[bne_iff_ne];omega,h1,h2⟩
      clear hch
      rcases hch2 with ⟨m1,rfl⟩|⟨m1,rfl,rfl⟩
      all_goals go_wp2
      all_goals go_ret3
      all_goals exact ⟨by rw[hRn.out];rfl,HX.out⟩
    ·have q1:¬(T1.size:Int)<(W:Int):=by omega
     have hW1:W≤T1.size:=by omega
     obtain ⟨Y,hY⟩:∃Y,str (T1.data.toList.take W)=Y:=⟨_,rfl⟩
     have hYl:Y.data.toList=(S.data.toList.drop a1).take W:=by rw[←hY,str_list,hT1]
     have hYs:Y.size=W:=by rw[←hY,str_size,List.length_take,data_len];omega
     have hYi:(Y.size:Int)=(W:Int):=by omega
     obtain ⟨T2,hT2⟩:∃T2,str (S.data.toList.drop (a1+W))=T2:=⟨_,rfl⟩
     have hsl2:∀wx,(Instr.slice 9 (.string T1) none (some (.int .i64 (W:Nat))) none).run Tryz.prog wx= .ok (.string Y) wx:=fun wx=>by rw[←hY];exact to_in T1 W hW1 wx
     have hsl3:∀wx,(Instr.slice 9 (.string T1) (some (.int .i64 (W:Nat))) none none).run Tryz.prog wx= .ok (.string T2) wx:=fun wx=>by
      have:=from_in T1 W hW1 wx
      rw[hT1,List.drop_drop,hT2] at this
      exact this
     have hcv:=fun wx=>Lib.run_convert_string_bytes (P:=Tryz.prog) wx 9 115 5 Y (u:= .string) Tryz.underlying9 Tryz.underlying115 Tryz.underlying5
     rw[hYs] at hcv
     have HT2:=gd hT2
     clear hY hT2
     rcases ways with ⟨rfl,rfl⟩|⟨n,rfl,hT0,hnb,hsl,hch⟩
     focus
      rw[add_zero] at hcell
      rw[show ((0:Nat):Int)=0 from rfl]
      have hlti:(0:Int)<(ws.length:Int):=by omega
     rotate_left
     have hki:(n:Int)+1 - 1=(n:Int):=by omega
     have hk0:(0:Int)<(n:Int)+1:=by omega
     have hb0:(0:Int)≤(n:Int):=by omega
     have hb1:(n:Int)<(bt.size:Int):=by omega
     have hTi:(0:Int)<(T.size:Int):=by omega
     have hlti:(n:Int)+1<(ws.length:Int):=by omega
     have hte:T.toList.isEmpty=false:=by
      rw[←Bool.not_eq_true,List.isEmpty_iff]
      intro h
      have:=congrArg List.length h
      rw[show T.toList=T.data.toList from ByteArray.toList_eq _,data_len,List.length_nil] at this
      omega
     simp only[show ((n+1:Nat):Int)=(n:Int)+1 by omega]
     rw[show ad.add (n+1)=⟨ad.block,ad.off+(n+1),none⟩ from if_neg (by omega)] at hcell
     obtain ⟨C,hC⟩:∃C,(bt[n]'hnb).toNat=C:=⟨_,rfl⟩
     obtain ⟨x,hxx⟩:∃x,(T[0]'hT0).toNat=x:=⟨_,rfl⟩
     have hCi:(((bt[n]'hnb).toNat:Nat):Int)=(C:Int):=by rw[hC]
     have hxi:(((T[0]'hT0).toNat:Nat):Int)=(x:Int):=by rw[hxx]
     rw[hC,hxx] at hch
     clear hC hxx
     have hch2:(((x:Int) !=(C:Int))=false∧x=C)∨(((x:Int) !=(C:Int))=true∧C=116∧x=84):=by
      rcases hch with h|⟨h1,h2⟩
      ·exact Or.inl ⟨by simp[h],h⟩
      ·exact Or.inr ⟨by rw[bne_iff_ne];omega,h1,h2⟩
     clear hch
     rcases hch2 with ⟨m1,rfl⟩|⟨m1,rfl,rfl⟩
     all_goals go_wp2
     all_goals
      obtain ⟨W1,hW1⟩:∃W1,W1=Lib.bytesWorld wr 5 Y:=⟨_,rfl⟩
      have hxW:Ext wr W1:=by rw[hW1];exact (Ext.refl wr).bytes _ _
      have hbr:BR W1 wr.heap.size Y.data.toList:=by rw[hW1];exact BR.bytes wr Y
      have HBR:=gd hbr
      have HXW:=gd hxW
      rw[←hW1]
      generalize Go.grownCap wr W 0 5=cap
      obtain ⟨g,hgg⟩:∃g,wr.heap.size=g:=⟨_,rfl⟩
      rw[hgg] at HBR⊢
      obtain ⟨wP,hwP⟩:∃wP:World,wP=wr:=⟨_,rfl⟩
      subst hwP
      clear hW1 hcv hgg hsl2 hbr hxW
      go_loopw [13,57] (fun n i wr=>∃j m:Nat,j≤W∧m≤9999∧n= .int .i64 (m:Nat)∧i= .int .i64 (j:Nat)∧Hid (numP S.data.toList a1 j=some m)∧wr=W1) (fun _ i _=>W - (intOf i).toNat)
      case atStart=>exact ⟨0,0,by omega,by omega,rfl,rfl,rfl,rfl⟩
      case round=>
       obtain ⟨j,m,hj,hm,rfl,rfl,hp,rfl⟩:=hrel
       by_cases hjl:j<W
       ·have hjy:j<Y.data.toList.length:=by rw[data_len];omega
        have hc:=HBR.out.cell j hjy
        have hal:a1+j<S.data.toList.length:=by rw[data_len];omega
        have hyj:Y.data.toList[j]=S.data.toList[a1+j]:=by
         have h1:Y.data.toList[j]? =S.data.toList[a1+j]?:=by rw[hYl,List.getElem?_take_of_lt hjl,List.getElem?_drop]
         rw[List.getElem?_eq_getElem hjy,List.getElem?_eq_getElem hal] at h1
         injection h1
        have hd:=digP_at hal
        rw[←hyj] at hd
        obtain ⟨y,hy⟩:∃y,Y.data.toList[j].toNat=y:=⟨_,rfl⟩
        rw[hy] at hc hd
        have hyb:y<256:=by rw[←hy];exact UInt8.toNat_lt _
        have HDD:=gd hd
        have b1:(j:Int)<(W:Int):=by omega
        have b0:(0:Int)≤(j:Int):=by omega
        clear hd hyj hy hal hjy
        by_cases hdig:48≤y∧y≤57
        ·have HST:Hid (numP S.data.toList a1 (j+1)=some (m*10+(y - 48))):=numP_step hp.out (by rw[HDD.out,if_pos hdig])
         have hm2:m*10+(y - 48)≤9999:=by
          have h1:=numP_lt HST.out
          have h2:10 ^ (j+1)≤10 ^ 4:=Nat.pow_le_pow_right (by omega) (by omega)
          omega
         have c1:¬(y:Int)<48:=by omega
         have c2:¬57<(y:Int):=by omega
         clear HDD hp
         go_wp2
         go_roundw
         case rel=>exact ⟨j+1,m*10+(y - 48),hjl,hm2,by refine congrArg (Value.int .i64) ?_;omega,by go_num,HST,trivial⟩
         case measure=>simp[intOf];omega
        ·have hRn:Hid (R=none):=by
          show _=_
          rw[←HRES.out,numP_none (k:=j) (by rw[HDD.out,if_neg hdig]) hjl];rfl
         have hcase:(y:Int)<48∨(¬(y:Int)<48∧57<(y:Int)):=by omega
         clear HDD hp hdig
         rcases hcase with c1|⟨c1,c2⟩
         all_goals go_wp2
         all_goals go_ret3
         all_goals exact ⟨by rw[hRn.out];rfl,HX.out.trans HXW.out⟩
       ·obtain rfl:j=W:=by omega
        have hoW:OI wr w.heap.size (.slice oA acc.length oc) acc:=own_ext HO.out HXW.out
        have HRES2:Hid (grpA (acc++ [m]) (grpG S.data.toList (bt.data.toList.map UInt8.toNat) (ws.drop (kv+1)) (kv+1) (a1+j))=R):=by
         show _=_
         rw[←HRES.out,hp.out,←grpA_cons]
        have b1:¬(j:Int)<(j:Int):=by omega
        clear hp
        go_wp2
        go_region_law (refine step_append_rsl _ rfl (.tmp 74) (.tmp 76) _ rfl w.heap.size 3 i0 _ 1 8 Tryz.underlying175 hi0 hz0 hz1 hz2 rfl (by omega) _ _ _ rfl ((OI.ext hoW ((Ext.refl wr).alloc _)).drew) _ 1 _ rfl (RSl.ext (rsl_new (cs:= [.int .i64 (m:Nat)]) (by simp) (by unfold maxLen;omega)) (Ext.refl _).drew) (by intro y hy;simp at hy;subst hy;rfl) (by unfold maxLen;omega) (by omega) (by simp;have:=(HX.out.trans HXW.out).size;omega) ?_;intro v1 wa1 hown1 hg1 hat1)
        all_goals have hx3:Ext w wa1:=(((HX.out.trans HXW.out).alloc _).drew).app hg1 (OI.ext hoW ((Ext.refl wr).alloc _)).drew (Nat.le_refl _)
        all_goals have ho3:OI wa1 w.heap.size v1 (acc++ [m]):=OI.of hown1 (by simp[ints])
        all_goals have hl3:(acc++ [m]).length=kv+1:=by rw[List.length_append,HAC.out];rfl
        all_goals have ha3:a1+j≤S.size:=by omega
        all_goals clear hg1 hat1 hown1
        all_goals go_wp2
        all_goals go_roundw
        all_goals first|exact ⟨kv+1,a1+j,acc++ [m],hkl,ha3,congrArg Value.string HT2.out.symm,by rw[HKV.out];go_num,ho3,hl3,HRES2,hx3⟩|(simp[intOf];have:=HKV.out;omega)|((repeat apply Exists.intro);exact ⟨⟨kv+1,a1+j,acc++ [m],hkl,ha3,congrArg Value.string HT2.out.symm,by rw[HKV.out];go_num,ho3,hl3,HRES2,hx3⟩,rfl⟩)
  ·have hke:k=ws.length:=by omega
   have hfin:Hid (R=some (acc,a)):=by
    show _=_
    rw[←hg.out,List.drop_of_length_le (by omega)]
    simp[grpG,grpA]
   subst hke
   have HO:=gd ho
   have HX:=gd hx
   clear hg ho hx hk
   go_wp2
   go_ret3
   refine ⟨?_,HX.out⟩
   rw[hfin.out,←hT]
   exact ⟨_,rfl,HO.out⟩
end
theorem digP_drop (l:List UInt8) (k i:Nat):digP (l.drop k) i=digP l (k+i):=by unfold digP;rw[List.getElem?_drop]
theorem numP_drop (l:List UInt8) (k a:Nat):∀w,numP (l.drop k) a w=numP l (k+a) w
 |0=>rfl
 |w+1=>by unfold numP;rw[numP_drop l k a w,digP_drop,Nat.add_assoc]
theorem sepP_drop (l:List UInt8) (k i a b:Nat):sepP (l.drop k) i a b=sepP l (k+i) a b:=by unfold sepP;rw[List.getElem?_drop]
theorem digsP_drop (l:List UInt8) (k:Nat):∀(f i:Nat),digsP (l.drop k) f i=digsP l f (k+i)
 |0,_=>rfl
 |f+1,i=>by unfold digsP;rw[digP_drop,digsP_drop l k f (i+1),Nat.add_assoc]
theorem offP_drop (l:List UInt8) (k a:Nat) (h:k≤l.length):offP (l.drop k) a=offP l (k+a):=by
 unfold offP
 simp only[sepP_drop,numP_drop,List.length_drop,←Nat.add_assoc]
 have e1:(l.length - k=a+1)=(l.length=k+a+1):=propext (by omega)
 have e6:(l.length - k=a+6)=(l.length=k+a+6):=propext (by omega)
 simp only[e1,e6]
theorem sepB_is (l:List UInt8) (i c:Nat) (h:c≠116):sepB l i c=sepP l i c c:=by
 unfold sepB sepP
 cases l[i]? with
 |none=>rfl
 |some x=>simp[h]
theorem sepB_t (l:List UInt8) (i:Nat):sepB l i 116=sepP l i 84 116:=by
 unfold sepB sepP
 cases l[i]? with
 |none=>rfl
 |some x=>simp[Bool.or_comm]
theorem grp2 (l:List UInt8):grpG l [58] [2,2] 0 0=match numP l 0 2,numP l 3 2 with
 |some h,some m=>if sepP l 2 58 58 then some ([h,m],5) else none
 |_,_=>none:=by
 simp only[grpG,sepB_is l 2 58 (by decide),Nat.zero_add,List.getD_cons_zero,Nat.reduceAdd]
 cases numP l 0 2 with
 |none=>rfl
 |some h=>
  cases sepP l 2 58 58 with
  |false=>cases numP l 3 2<;>rfl
  |true=>cases numP l 3 2<;>rfl
theorem grp6 (l:List UInt8):grpG l [45,45,116,58,58] [4,2,2,2,2,2] 0 0=if sepsP l then match numP l 0 4,numP l 5 2,numP l 8 2,numP l 11 2,numP l 14 2,numP l 17 2 with
 |some y,some m,some d,some h,some mi,some s=>some ([y,m,d,h,mi,s],19)
 |_,_,_,_,_,_=>none
 else none:=by
 unfold sepsP
 simp only[grpG,sepB_is l _ 45 (by decide),sepB_is l _ 58 (by decide),sepB_t,Nat.zero_add,List.getD_cons_zero,List.getD_cons_succ,Nat.reduceAdd]
 cases numP l 0 4 with
 |none=>cases sepP l 4 45 45<;>cases sepP l 7 45 45<;>cases sepP l 10 84 116<;>cases sepP l 13 58 58<;>cases sepP l 16 58 58<;>rfl
 |some y=>
  cases sepP l 4 45 45 with
  |false=>rfl
  |true=>
   cases numP l 5 2 with
   |none=>cases sepP l 7 45 45<;>cases sepP l 10 84 116<;>cases sepP l 13 58 58<;>cases sepP l 16 58 58<;>rfl
   |some m=>
    cases sepP l 7 45 45 with
    |false=>rfl
    |true=>
     cases numP l 8 2 with
     |none=>cases sepP l 10 84 116<;>cases sepP l 13 58 58<;>cases sepP l 16 58 58<;>rfl
     |some d=>
      cases sepP l 10 84 116 with
      |false=>rfl
      |true=>
       cases numP l 11 2 with
       |none=>cases sepP l 13 58 58<;>cases sepP l 16 58 58<;>rfl
       |some h=>
        cases sepP l 13 58 58 with
        |false=>rfl
        |true=>
         cases numP l 14 2 with
         |none=>cases sepP l 16 58 58<;>rfl
         |some mi=>
          cases sepP l 16 58 58 with
          |false=>rfl
          |true=>cases numP l 17 2<;>rfl
section
set_option linter.unusedSimpArgs false
theorem empty_iff (T:ByteArray):T.toList.isEmpty=decide (T.size=0):=by
 rw[show T.toList=T.data.toList from ByteArray.toList_eq _,←data_len,Bool.eq_iff_iff,List.isEmpty_iff,decide_eq_true_eq]
 exact ⟨fun h=>by rw[h];rfl,List.eq_nil_of_length_eq_zero⟩
theorem byte_at {T:ByteArray} {i:Nat} (h:i<T.size):(T[i]'h).toNat=(T.data.toList[i]'(by rw[data_len];exact h)).toNat:=rfl
def fracE (l:List UInt8):Nat×Bool:=if sepP l 0 46 46 then (1+digsP l l.length 1,decide (0<digsP l l.length 1)) else (0,true)
theorem fraction_any (T:ByteArray) (w:World) (hs:T.size≤16777216):
 Calls Tryz.prog 119 #[.string T] w fun e w'=>e= .returned (.tuple #[.string (str (T.data.toList.drop (fracE T.data.toList).1)),.bool (fracE T.data.toList).2])∧w'=w:=by
 have hemp:=empty_iff T
 by_cases h0:T.size=0
 ·have hl:T.data.toList= []:=List.eq_nil_of_length_eq_zero (by rw[data_len];exact h0)
  have hF:fracE T.data.toList=(0,true):=by rw[hl];rfl
  rw[hF]
  simp only[List.drop_zero,str_of]
  rw[decide_eq_true h0] at hemp
  clear hl hF h0
  go_enter Tryz.func119,Tryz.ntmps119
  go_wp2
  go_ret2
  exact ⟨rfl,rfl⟩
 ·have hT0:0<T.size:=by omega
  rw[decide_eq_false h0] at hemp
  have hTi:(0:Int)<(T.size:Int):=by omega
  have hsep:=sepP_at (l:=T.data.toList) (i:=0) 46 46 (by rw[data_len];exact hT0)
  rw[←byte_at hT0] at hsep
  obtain ⟨x,hx⟩:∃x,(T[0]'hT0).toNat=x:=⟨_,rfl⟩
  rw[hx] at hsep
  have hxi:(((T[0]'hT0).toNat:Nat):Int)=(x:Int):=by rw[hx]
  by_cases h46:x=46
  ·have hF:fracE T.data.toList=(1+digsP T.data.toList T.data.toList.length 1,decide (0<digsP T.data.toList T.data.toList.length 1)):=by unfold fracE;rw[hsep,h46];rfl
   have hle:=digsP_le (l:=T.data.toList) T.data.toList.length 1 (by rw[data_len];exact hT0)
   rw[hF]
   simp only
   obtain ⟨D,hD⟩:∃D,digsP T.data.toList T.data.toList.length 1=D:=⟨_,rfl⟩
   rw[hD] at hle⊢
   rw[data_len] at hle
   have HD:=gd hD
   subst h46
   clear hF hsep h0 hx hD
   go_enter Tryz.func119,Tryz.ntmps119
   go_wp2
   obtain ⟨wP,hwP⟩:∃wP:World,wP=w:=⟨_,rfl⟩
   subst hwP
   go_loopw [4] (fun v wr=>∃k:Nat,1≤k∧k≤T.size∧v= .int .i64 (k:Nat)∧Hid (k+digsP T.data.toList T.data.toList.length k=1+D)∧wr=wP) (fun v _=>T.size - (intOf v).toNat)
   case atStart=>exact ⟨1,by omega,by omega,rfl,by show _=_;rw[HD.out],rfl⟩
   case round=>
    obtain ⟨k,hk1,hk,rfl,hda,rfl⟩:=hrel
    have stop:(digP T.data.toList k).isSome=false→k=1+D:=fun h=>by have:=hda.out;rw[digsP_stop h] at this;exact this
    by_cases hlt:k<T.size
    ·have hd:=digP_at (l:=T.data.toList) (i:=k) (by rw[data_len];exact hlt)
     rw[←byte_at hlt] at hd
     obtain ⟨y,hy⟩:∃y,(T[k]'hlt).toNat=y:=⟨_,rfl⟩
     rw[hy] at hd
     have hyi:(((T[k]'hlt).toNat:Nat):Int)=(y:Int):=by rw[hy]
     have b0:(0:Int)≤(k:Int):=by omega
     have b1:(k:Int)<(T.size:Int):=by omega
     by_cases hdig:48≤y∧y≤57
     ·have hda2:Hid (k+1+digsP T.data.toList T.data.toList.length (k+1)=1+D):=by
       show _=_
       rw[←hda.out]
       obtain ⟨q,hq⟩:∃q,T.data.toList.length=q+1:=⟨T.data.toList.length - 1,by rw[data_len];omega⟩
       have h2:=digsP_step (l:=T.data.toList) (k:=q) (i:=k) (by rw[hd,if_pos hdig];rfl)
       have h3:=digsP_fuel (l:=T.data.toList) q T.data.toList.length (k+1) (by omega) (by omega)
       rw[hq] at h3⊢
       omega
      have c1:(48:Int)≤(y:Int):=by omega
      have c2:(y:Int)≤57:=by omega
      clear hd hda stop hy hdig
      go_wp2
      go_roundw
      case rel=>exact ⟨k+1,by omega,hlt,by go_num,hda2,trivial⟩
      case measure=>simp[intOf];omega
     ·have hkD:=stop (by rw[hd,if_neg hdig];rfl)
      have hsl:=from_in T k (by omega)
      have hcase:¬(48:Int)≤(y:Int)∨((48:Int)≤(y:Int)∧¬(y:Int)≤57):=by omega
      have hkd:decide ((1:Int)<(k:Int))=decide (0<D):=by rw[Bool.eq_iff_iff,decide_eq_true_eq,decide_eq_true_eq];omega
      have HKD:=gd hkD
      have HKE:=gd hkd
      clear hd hda stop hy hdig hkD hkd
      rcases hcase with c1|⟨c1,c2⟩
      all_goals go_wp2
      all_goals go_ret2
      all_goals exact ⟨by rw[←HKD.out,←HKE.out];simp,rfl⟩
    ·obtain rfl:k=T.size:=by omega
     have hkD:=stop (by rw[digP_end (by rw[data_len];exact Nat.le_refl _)];rfl)
     have hsl:=from_in T T.size (Nat.le_refl _)
     have hkd:decide ((1:Int)<(T.size:Int))=decide (0<D):=by rw[Bool.eq_iff_iff,decide_eq_true_eq,decide_eq_true_eq];omega
     have HKD:=gd hkD
     have HKE:=gd hkd
     clear hda stop hkD hkd
     go_wp2
     go_ret2
     exact ⟨by rw[←HKD.out,←HKE.out];simp,rfl⟩
  ·have hF:fracE T.data.toList=(0,true):=by unfold fracE;rw[hsep];simp[h46]
   rw[hF]
   simp only[List.drop_zero,str_of]
   have q1:((x:Int) !=46)=true:=by rw[bne_iff_ne];omega
   clear hF hsep h0 hx h46
   go_enter Tryz.func119,Tryz.ntmps119
   go_wp2
   go_ret2
   exact ⟨rfl,rfl⟩
end
section
set_option linter.unusedSimpArgs false
theorem OI.cell {w:World} {B:Nat} {v:Value} {l:List Nat} (h:OI w B v l) (h0:0<l.length):∃g cap,v= .slice (some ⟨g,0,none⟩) l.length cap∧∀j (hj:j<l.length),w.cell? ⟨g,j,none⟩=some (.int .i64 (l[j]:Nat)):=by
 rcases h.2 with ⟨rfl,h1⟩|⟨g,cap,cur,rfl,h1,h2,h3,h4,h5,h6⟩
 ·omega
 ·refine ⟨g,cap,rfl,fun j hj=> ?_⟩
  have:=World.ownsRow.cells (g:=g) h rfl j (.int .i64 (l[j]:Nat)) (by rw[ints,List.getElem?_map,List.getElem?_eq_getElem hj];rfl)
  rwa [show (⟨g,0,none⟩:Addr).add j=⟨g,j,none⟩ from by unfold Addr.add;split<;>simp_all] at this
theorem OI.two {w:World} {B:Nat} {v:Value} {a b:Nat} (h:OI w B v [a,b]):∃g cap,v= .slice (some ⟨g,0,none⟩) 2 cap∧w.cell? ⟨g,0,none⟩=some (.int .i64 (a:Nat))∧w.cell? ⟨g,1,none⟩=some (.int .i64 (b:Nat)):=by
 obtain ⟨g,cap,rfl,hc⟩:=h.cell (by simp)
 exact ⟨g,cap,rfl,hc 0 (by simp),hc 1 (by simp)⟩
theorem OI.six {w:World} {B:Nat} {v:Value} {a b c d e f:Nat} (h:OI w B v [a,b,c,d,e,f]):∃g cap,v= .slice (some ⟨g,0,none⟩) 6 cap∧w.cell? ⟨g,0,none⟩=some (.int .i64 (a:Nat))∧w.cell? ⟨g,1,none⟩=some (.int .i64 (b:Nat))∧
 w.cell? ⟨g,2,none⟩=some (.int .i64 (c:Nat))∧w.cell? ⟨g,3,none⟩=some (.int .i64 (d:Nat))∧w.cell? ⟨g,4,none⟩=some (.int .i64 (e:Nat))∧w.cell? ⟨g,5,none⟩=some (.int .i64 (f:Nat)):=by
 obtain ⟨g,cap,rfl,hc⟩:=h.cell (by simp)
 exact ⟨g,cap,rfl,hc 0 (by simp),hc 1 (by simp),hc 2 (by simp),hc 3 (by simp),hc 4 (by simp),hc 5 (by simp)⟩
def OffR (l:List UInt8) (e:Ending):Prop:=e= .returned (match offP l 0 with|some x=> .tuple #[.int .i64 x,.bool true]|none=> .tuple #[.int .i64 0,.bool false])
theorem offset_any (T:ByteArray) (w:World) (hs:T.size≤16777216):
 Calls Tryz.prog 120 #[.string T] w fun e w'=>OffR T.data.toList e∧Ext w w':=by
 have hemp:=empty_iff T
 by_cases h0:T.size=0
 ·have hl:T.data.toList= []:=List.eq_nil_of_length_eq_zero (by rw[data_len];exact h0)
  have hF:offP T.data.toList 0=none:=by rw[hl];rfl
  rw[decide_eq_true h0] at hemp
  have hz1:T.toList= []:=by rw[show T.toList=T.data.toList from ByteArray.toList_eq _,hl]
  unfold OffR
  rw[hF]
  clear hl hF h0
  go_enter Tryz.func120,Tryz.ntmps120
  go_wp2
  go_ret2
  exact ⟨rfl,Ext.refl _⟩
 ·have hT0:0<T.size:=by omega
  rw[decide_eq_false h0] at hemp
  have hTi:(0:Int)<(T.size:Int):=by omega
  have hal:0<T.data.toList.length:=by rw[data_len];exact hT0
  have hsZ:=sepP_at (l:=T.data.toList) (i:=0) 90 122 hal
  have hsS:=sepP_at (l:=T.data.toList) (i:=0) 43 45 hal
  have hs45:=sepP_at (l:=T.data.toList) (i:=0) 45 45 hal
  rw[←byte_at hT0] at hsZ hsS hs45
  obtain ⟨x,hx⟩:∃x,(T[0]'hT0).toNat=x:=⟨_,rfl⟩
  rw[hx] at hsZ hsS hs45
  have hxi:(((T[0]'hT0).toNat:Nat):Int)=(x:Int):=by rw[hx]
  have hlist:∀c:UInt8,T.toList= [c]↔(T.size=1∧x=c.toNat):=by
   intro c
   rw[show T.toList=T.data.toList from ByteArray.toList_eq _]
   have hb:T.data.toList[0]=T[0]'hT0:=rfl
   constructor
   ·intro h
    have h1:=congrArg List.length h
    rw[data_len] at h1
    have h2:T.data.toList[0]? =some c:=by rw[h];rfl
    rw[List.getElem?_eq_getElem hal,hb] at h2
    injection h2 with h2
    exact ⟨h1,by rw[←hx,h2]⟩
   ·rintro ⟨h1,h2⟩
    have h3:T.data.toList.length=1:=by rw[data_len];exact h1
    have h4:T[0]'hT0=c:=UInt8.toNat_inj.1 (hx.trans h2)
    match hl:T.data.toList,h3 with
    | [d],_=>rw[←h4,←hb];simp[hl]
  by_cases hone:T.size=1∧(x=90∨x=122)
  ·have hF:offP T.data.toList 0=some 0:=by
    unfold offP
    rw[hsZ,if_pos (by rcases hone.2 with h|h<;>simp[h]),if_pos (by rw[data_len];omega)]
   unfold OffR
   rw[hF]
   rcases hone with ⟨h1,h2|h2⟩
   ·have hz:T.toList= [90]:=(hlist 90).2 ⟨h1,h2⟩
    clear hF hsZ hsS hs45 hlist hx hxi h0 hemp hal
    go_enter Tryz.func120,Tryz.ntmps120
    go_wp2
    go_ret2
    exact ⟨rfl,Ext.refl _⟩
   ·have hz:T.toList= [122]:=(hlist 122).2 ⟨h1,h2⟩
    clear hF hsZ hsS hs45 hlist hx hxi h0 hemp hal
    go_enter Tryz.func120,Tryz.ntmps120
    go_wp2
    go_ret2
    exact ⟨rfl,Ext.refl _⟩
  ·have hz1:(T.toList== [90])=false:=by
    rw[beq_eq_false_iff_ne];exact fun h=>hone ⟨((hlist 90).1 h).1,Or.inl ((hlist 90).1 h).2⟩
   have hz2:(T.toList== [122])=false:=by
    rw[beq_eq_false_iff_ne];exact fun h=>hone ⟨((hlist 122).1 h).1,Or.inr ((hlist 122).1 h).2⟩
   by_cases hsgn:x=43∨x=45
   ·have hZ0:sepP T.data.toList 0 90 122=false:=by rw[hsZ];rcases hsgn with h|h<;>rw[h]<;>rfl
    have hS0:sepP T.data.toList 0 43 45=true:=by rw[hsS];rcases hsgn with h|h<;>rw[h]<;>rfl
    have hF:=offP_at T.data.toList 0 hZ0
    rw[hS0,hs45] at hF
    have hsl:=from_in T 1 (by omega)
    rw[show ((1:Nat):Int)=1 from rfl] at hsl
    obtain ⟨M,hM⟩:∃M,str (T.data.toList.drop 1)=M:=⟨_,rfl⟩
    rw[hM] at hsl
    have hMl:M.data.toList=T.data.toList.drop 1:=by rw[←hM,str_list]
    have hMs:M.size=T.size - 1:=by rw[←hM,str_size,List.length_drop,data_len]
    have hg:=grp2 M.data.toList
    rw[hMl,numP_drop,numP_drop,sepP_drop] at hg
    have HGR:=gd (fun w' (V:Value) (hV:RSl w' 1 V 2 (ints [2,2]))=>groups_any M ⟨#[58]⟩ [2,2] V w' (by omega) hV (by decide) (by decide) (by decide) (by decide))
    rw[show ((⟨#[58]⟩:ByteArray).data.toList.map UInt8.toNat)= [58] from rfl] at HGR
    have hrow:RSl (w.alloc (.cells #[.int .i64 2,.int .i64 2] 3)) 1 (.slice (some ⟨w.heap.size,0,none⟩) 2 2) 2 (ints [2,2]):=rsl_new (cs:= [.int .i64 2,.int .i64 2]) rfl (by decide)
    replace HGR:=gd (HGR.out _ _ hrow)
    rw[hMl] at HGR
    have q1:((x:Int) !=43 && (x:Int) !=45)=false:=by rcases hsgn with h|h<;>rw[h]<;>rfl
    have hcase:(grpG (T.data.toList.drop 1) [58] [2,2] 0 0=none∧offP T.data.toList 0=none)∨(∃h m,h<100∧m<100∧6≤T.size∧grpG (T.data.toList.drop 1) [58] [2,2] 0 0=some ([h,m],5)∧
     offP T.data.toList 0=if h≤23∧m≤59∧T.data.toList.length=6 then some (if x=45 then -((h*3600+m*60:Nat):Int) else ((h*3600+m*60:Nat):Int)) else none):=by
     rw[hg,hF]
     rw[show 0+1=1+0 from rfl,show 0+4=1+3 from rfl,show 0+3=1+2 from rfl]
     cases h1:numP T.data.toList (1+0) 2 with
     |none=>exact Or.inl ⟨rfl,rfl⟩
     |some h=>
      cases h2:numP T.data.toList (1+3) 2 with
      |none=>exact Or.inl ⟨rfl,rfl⟩
      |some m=>
       cases h3:sepP T.data.toList (1+2) 58 58 with
       |false=>exact Or.inl ⟨rfl,by simp⟩
       |true=>
        refine Or.inr ⟨h,m,numP_lt h1,numP_lt h2,?_,rfl,by simp⟩
        rcases Nat.lt_or_ge T.data.toList.length 6 with h6|h6
        ·rw[numP_short (by omega) (by omega)] at h2;cases h2
        ·rwa [data_len] at h6
    clear hF hsZ hsS hs45 hlist hx h0 hal hone hZ0 hS0 hg hM
    rcases hcase with ⟨hgn,hF⟩|⟨h,m,hh,hm,hT6,hgs,hF⟩
    ·rw[hgn] at HGR
     unfold OffR
     rw[hF]
     simp only[GrpR] at HGR
     clear hF hMl hMs hgn
     go_enter Tryz.func120,Tryz.ntmps120
     rcases hsgn with rfl|rfl
     all_goals go_wp2_with (first|(go_at_call 117;(have hz:=HGR.out);(with_reducible refine Calls.mono hz ?_);clear hz;rintro e w1 ⟨rfl,hx1⟩))
     all_goals go_ret2
     all_goals exact ⟨rfl,((Ext.refl w).alloc _).trans hx1⟩
    ·rw[hgs] at HGR
     obtain ⟨Q,hQ⟩:∃Q,str (M.data.toList.drop 5)=Q:=⟨_,rfl⟩
     have hQs:Q.size=T.size - 6:=by rw[←hQ,str_size,List.length_drop,hMl,List.length_drop,data_len];omega
     have hQe:=empty_iff Q
     simp only[GrpR,hQ] at HGR
     rw[data_len] at hF
     by_cases hgood:h≤23∧m≤59∧T.size=6
     ·rw[if_pos hgood] at hF
      unfold OffR
      rw[hF]
      obtain ⟨g1,g2,g3⟩:=hgood
      rw[decide_eq_true (show Q.size=0 by omega)] at hQe
      have c1:¬23<(h:Int):=by omega
      have c2:¬59<(m:Int):=by omega
      clear hF hMl hgs hQ hQs hMs
      go_enter Tryz.func120,Tryz.ntmps120
      rcases hsgn with rfl|rfl
      all_goals go_wp2_with (first|(go_at_call 117;(have hz:=HGR.out);(with_reducible refine Calls.mono hz ?_);clear hz;rintro e w1 ⟨⟨v,rfl,hov⟩,hx1⟩;(obtain ⟨g,cap,rfl,d0,d1⟩:=hov.two);clear hov))
      all_goals go_region
      all_goals go_wp2
      all_goals go_ret2
      ·exact ⟨by refine congrArg (fun t=>Ending.returned (.tuple #[.int .i64 t,.bool true])) ?_;first|rfl|omega,(((Ext.refl w).alloc _).trans hx1).drew⟩
      ·exact ⟨by refine congrArg (fun t=>Ending.returned (.tuple #[.int .i64 t,.bool true])) ?_;first|rfl|omega,(((Ext.refl w).alloc _).trans hx1).drew⟩
     ·rw[if_neg hgood] at hF
      unfold OffR
      rw[hF]
      have hways:(Q.toList.isEmpty=false)∨(Q.toList.isEmpty=true∧23<(h:Int))∨(Q.toList.isEmpty=true∧¬23<(h:Int)∧59<(m:Int)):=by
       by_cases h0:Q.size=0
       ·rw[decide_eq_true h0] at hQe
        by_cases h23:23<(h:Int)
        ·exact Or.inr (Or.inl ⟨hQe,h23⟩)
        ·refine Or.inr (Or.inr ⟨hQe,h23,?_⟩)
         by_cases h59:59<(m:Int)
         ·exact h59
         ·exact absurd ⟨by omega,by omega,by omega⟩ hgood
       ·rw[decide_eq_false h0] at hQe
        exact Or.inl hQe
      clear hF hMl hgs hQ hQs hMs hgood hQe
      go_enter Tryz.func120,Tryz.ntmps120
      rcases hsgn with rfl|rfl
      all_goals rcases hways with c0|⟨c0,c1⟩|⟨c0,c1,c2⟩
      all_goals go_wp2_with (first|(go_at_call 117;(have hz:=HGR.out);(with_reducible refine Calls.mono hz ?_);clear hz;rintro e w1 ⟨⟨v,rfl,hov⟩,hx1⟩;(obtain ⟨g,cap,rfl,d0,d1⟩:=hov.two);clear hov))
      all_goals go_ret2
      all_goals exact ⟨rfl,((Ext.refl w).alloc _).trans hx1⟩
   ·have hF:offP T.data.toList 0=none:=by
     have hS0:sepP T.data.toList 0 43 45=false:=by rw[hsS];simp only[not_or] at hsgn;simp[hsgn]
     cases hZ0:sepP T.data.toList 0 90 122 with
     |true=>
      unfold offP
      rw[hZ0,if_pos rfl,if_neg]
      intro h
      rw[data_len] at h
      rw[hsZ] at hZ0
      exact hone ⟨h,by simpa using hZ0⟩
     |false=>exact offP_bad hZ0 (Or.inl hS0)
    unfold OffR
    rw[hF]
    have q1:((x:Int) !=43)=true:=by rw[bne_iff_ne];omega
    have q2:((x:Int) !=45)=true:=by rw[bne_iff_ne];omega
    clear hF hsZ hsS hs45 hlist hx h0 hal hone hsgn
    go_enter Tryz.func120,Tryz.ntmps120
    go_wp2
    go_ret2
    exact ⟨rfl,Ext.refl _⟩
end
section
set_option linter.unusedSimpArgs false
theorem str_at (S:ByteArray) (a:Nat) (h:a≤S.size):(str (S.data.toList.drop a)).data.toList=S.data.toList.drop a∧(str (S.data.toList.drop a)).size=S.size - a:=⟨str_list _,by rw[str_size,List.length_drop,data_len]⟩
theorem fracE_at (l:List UInt8) (h:19≤l.length):fracP l 19=if (fracE (l.drop 19)).2 then some (19+(fracE (l.drop 19)).1) else none:=by
 unfold fracP fracE
 rw[sepP_drop,digsP_drop]
 cases sepP l (19+0) 46 46 with
 |false=>rfl
 |true=>
  simp only[if_true]
  rw[show 19+1=20 from rfl]
  rw[digsP_fuel (l:=l) l.length (l.drop 19).length 20 (by omega) (by rw[List.length_drop];omega)]
  generalize digsP l (l.drop 19).length 20=D
  by_cases hD:D=0
  ·subst hD;rfl
  ·rw[if_neg hD,decide_eq_true (by omega)];simp;omega
theorem fracE_le (l:List UInt8):(fracE l).1≤l.length:=by
 unfold fracE
 cases h:sepP l 0 46 46 with
 |false=>exact Nat.zero_le _
 |true=>
  rw[if_pos rfl]
  have h0:0<l.length:=by
   rcases Nat.lt_or_ge 0 l.length with h1|h1
   ·exact h1
   ·rw[sepP_end 46 46 h1] at h;cases h
  exact digsP_le l.length 1 h0
attribute [local go_sem] calm1
theorem time_any (S:ByteArray) (w:World) (hs:S.size≤16777216):
 Calls Tryz.prog 71 #[.string S] w fun e w'=>TimeR S.data.toList e∧Ext w w':=by
 have hst:=stampP_at S.data.toList
 have hrow:RSl (w.alloc (.cells #[.int .i64 4,.int .i64 2,.int .i64 2,.int .i64 2,.int .i64 2,.int .i64 2] 3)) 1 (.slice (some ⟨w.heap.size,0,none⟩) 6 6) 6 (ints [4,2,2,2,2,2]):=rsl_new (cs:= [.int .i64 4,.int .i64 2,.int .i64 2,.int .i64 2,.int .i64 2,.int .i64 2]) rfl (by decide)
 have HGR:=gd (groups_any S ⟨#[45,45,116,58,58]⟩ [4,2,2,2,2,2] _ _ hs hrow (by decide) (by decide) (by decide) (by decide))
 rw[show ((⟨#[45,45,116,58,58]⟩:ByteArray).data.toList.map UInt8.toNat)= [45,45,116,58,58] from rfl] at HGR
 have hg:=grp6 S.data.toList
 cases hgr:grpG S.data.toList [45,45,116,58,58] [4,2,2,2,2,2] 0 0 with
 |none=>
  rw[hgr] at HGR hg
  simp only[GrpR] at HGR
  have hstn:stampP S.data.toList=none:=by
   rw[hst]
   cases hsp:sepsP S.data.toList with
   |false=>rfl
   |true=>
    rw[hsp,if_pos rfl] at hg
    rw[if_pos rfl,secsI_oi]
    cases h0:numP S.data.toList 0 4 with
    |none=>rfl
    |some y=>cases h1:numP S.data.toList 5 2 with
     |none=>rfl
     |some m=>cases h2:numP S.data.toList 8 2 with
      |none=>rfl
      |some d=>cases h3:numP S.data.toList 11 2 with
       |none=>rfl
       |some h=>cases h4:numP S.data.toList 14 2 with
        |none=>rfl
        |some mi=>cases h5:numP S.data.toList 17 2 with
         |none=>rfl
         |some s=>rw[h0,h1,h2,h3,h4,h5] at hg;cases hg
  have hTS:=timeP_none1 hstn
  have HR:Hid (∀e,TimeR S.data.toList e=∃x:Int,x≠0∧e= .returned (.tuple #[.int .i64 0,.int .i64 x])):=gd (fun e=>by unfold TimeR;rw[hTS])
  clear hst hg hgr hstn hTS
  go_enter Tryz.func71,Tryz.ntmps71
  go_wp2_with (first|(go_at_call 117;(have hz:=HGR.out);(with_reducible refine Calls.mono hz ?_);clear hz;rintro e w1 ⟨rfl,hx1⟩))
  go_ret2
  exact ⟨by rw[HR.out];exact ⟨20,by decide,rfl⟩,((Ext.refl w).alloc _).trans hx1⟩
 |some p=>
  rw[hgr] at hg HGR
  have hparts:∃y m d h mi s,p=([y,m,d,h,mi,s],19)∧y<10000∧m<100∧d<100∧h<100∧mi<100∧s<100∧19≤S.size∧stampP S.data.toList=secsI (y:Int) (m:Int) (d:Int) (h:Int) (mi:Int) (s:Int):=by
   cases hsp:sepsP S.data.toList with
   |false=>rw[hsp] at hg;cases hg
   |true=>
    rw[hsp,if_pos rfl] at hg
    rw[hsp,if_pos rfl] at hst
    cases h0:numP S.data.toList 0 4 with
    |none=>rw[h0] at hg;cases hg
    |some y=>cases h1:numP S.data.toList 5 2 with
     |none=>rw[h0,h1] at hg;cases hg
     |some m=>cases h2:numP S.data.toList 8 2 with
      |none=>rw[h0,h1,h2] at hg;cases hg
      |some d=>cases h3:numP S.data.toList 11 2 with
       |none=>rw[h0,h1,h2,h3] at hg;cases hg
       |some h=>cases h4:numP S.data.toList 14 2 with
        |none=>rw[h0,h1,h2,h3,h4] at hg;cases hg
        |some mi=>cases h5:numP S.data.toList 17 2 with
         |none=>rw[h0,h1,h2,h3,h4,h5] at hg;cases hg
         |some s=>
          rw[h0,h1,h2,h3,h4,h5] at hg hst
          injection hg with hg
          refine ⟨y,m,d,h,mi,s,hg,numP_lt h0,numP_lt h1,numP_lt h2,numP_lt h3,numP_lt h4,numP_lt h5,?_,hst⟩
          rcases Nat.lt_or_ge S.data.toList.length 19 with h6|h6
          ·rw[numP_short (by omega) (by omega)] at h5;cases h5
          ·rwa [data_len] at h6
  obtain ⟨y,m,d,h,mi,s,rfl,hy,hm,hd,hh,hmi,hss,h19,hstamp⟩:=hparts
  have hfr:=fracE_at S.data.toList (by rw[data_len];exact h19)
  obtain ⟨ha1,ha2⟩:=str_at S 19 h19
  obtain ⟨Q,hQ⟩:∃Q,str (S.data.toList.drop 19)=Q:=⟨_,rfl⟩
  rw[hQ] at ha1 ha2
  have hle:=fracE_le Q.data.toList
  have HFR:=gd (fun w'=>fraction_any Q w' (by omega))
  rw[←ha1] at hfr
  obtain ⟨F,hF⟩:∃F,(fracE Q.data.toList).1=F:=⟨_,rfl⟩
  obtain ⟨fb,hfb⟩:∃b,(fracE Q.data.toList).2=b:=⟨_,rfl⟩
  rw[hF,hfb] at hfr HFR
  rw[hF,data_len,ha2] at hle
  obtain ⟨Z,hZ⟩:∃Z,str (Q.data.toList.drop F)=Z:=⟨_,rfl⟩
  have hZl:Z.data.toList=S.data.toList.drop (19+F):=by rw[←hZ,str_list,ha1,List.drop_drop]
  have hZs:Z.size≤16777216:=by rw[←hZ,str_size,List.length_drop,data_len];omega
  rw[hZ] at HFR
  have HOF:=gd (fun w'=>offset_any Z w' hZs)
  have hoff:offP Z.data.toList 0=offP S.data.toList (19+F):=by rw[hZl,offP_drop _ _ _ (by rw[data_len];omega),Nat.add_zero]
  unfold OffR at HOF
  rw[hoff] at HOF
  have HSE:=gd (fun w'=>seconds_any (y:Int) (m:Int) (d:Int) (h:Int) (mi:Int) (s:Int) w')
  simp only[GrpR,hQ] at HGR
  have by1:(y:Int)≤9999:=by omega
  clear hg hgr hst hle ha1 ha2 hF hfb hZ hZl hZs hoff hrow hQ
  have hO:∃(O:Int) (ob:Bool),Hid (∀w':World,Calls Tryz.prog 120 #[.string Z] w' fun e w''=>e= .returned (.tuple #[.int .i64 O,.bool ob])∧Ext w' w'')∧offP S.data.toList (19+F)=if ob then some O else none:=by
   cases hoo:offP S.data.toList (19+F) with
   |none=>rw[hoo] at HOF;exact ⟨0,false,HOF,rfl⟩
   |some x=>rw[hoo] at HOF;exact ⟨x,true,HOF,rfl⟩
  clear HOF
  obtain ⟨O,ob,HOF,hO2⟩:=hO
  cases hsec:secsI (y:Int) (m:Int) (d:Int) (h:Int) (mi:Int) (s:Int) with
  |none=>
   rw[hsec] at hstamp HSE
   have hTS:=timeP_none1 hstamp
   have HR:Hid (∀e,TimeR S.data.toList e=∃x:Int,x≠0∧e= .returned (.tuple #[.int .i64 0,.int .i64 x])):=gd (fun e=>by unfold TimeR;rw[hTS])
   clear hTS hstamp hsec hfr hO2
   go_enter Tryz.func71,Tryz.ntmps71
   go_wp2_with (first|(go_at_call 117;(have hz:=HGR.out);(with_reducible refine Calls.mono hz ?_);clear hz;rintro e w1 ⟨⟨v,rfl,hov⟩,hx1⟩;(obtain ⟨g,cap,rfl,d0,d1,d2,d3,d4,d5⟩:=hov.six);clear hov))
   have z0:∀D:Aft w1,D.w.cell? ⟨g,0,none⟩=some (.int .i64 (y:Nat)):=Aft.cell d0
   have z1:∀D:Aft w1,D.w.cell? ⟨g,1,none⟩=some (.int .i64 (m:Nat)):=Aft.cell d1
   have z2:∀D:Aft w1,D.w.cell? ⟨g,2,none⟩=some (.int .i64 (d:Nat)):=Aft.cell d2
   have z3:∀D:Aft w1,D.w.cell? ⟨g,3,none⟩=some (.int .i64 (h:Nat)):=Aft.cell d3
   have z4:∀D:Aft w1,D.w.cell? ⟨g,4,none⟩=some (.int .i64 (mi:Nat)):=Aft.cell d4
   have z5:∀D:Aft w1,D.w.cell? ⟨g,5,none⟩=some (.int .i64 (s:Nat)):=Aft.cell d5
   clear d0 d1 d2 d3 d4 d5
   refine rA ?_
   repeat (quiet_step ((go_at_call 118;with_reducible exact quiet_call_same' (HSE.out _))))
   refine wpQuiet_nil ?_
   rintro _ ⟨D,rfl⟩
   have hxD:=D.ext
   clear z0 z1 z2 z3 z4 z5
   go_wp2_with (first|(go_at_call 119;(have hz:=HFR.out D.w);(with_reducible refine Calls.mono hz ?_);clear hz;rintro e w3 ⟨rfl,hw3⟩;subst hw3)|(go_at_call 120;(have hz:=HOF.out D.w);(with_reducible refine Calls.mono hz ?_);clear hz;rintro e w4 ⟨rfl,hx4⟩))
   go_ret2
   exact ⟨by rw[HR.out];exact ⟨20,by decide,rfl⟩,((((Ext.refl w).alloc _).trans hx1).trans hxD).trans hx4⟩
  |some t=>
   have hin:=secsI_in hsec
   rw[hsec] at hstamp HSE
   clear hsec
   cases fb with
   |false=>
    have hTS:=timeP_none2 hfr
    have HR:Hid (∀e,TimeR S.data.toList e=∃x:Int,x≠0∧e= .returned (.tuple #[.int .i64 0,.int .i64 x])):=gd (fun e=>by unfold TimeR;rw[hTS])
    clear hTS hstamp hfr hO2 hin
    go_enter Tryz.func71,Tryz.ntmps71
    go_wp2_with (first|(go_at_call 117;(have hz:=HGR.out);(with_reducible refine Calls.mono hz ?_);clear hz;rintro e w1 ⟨⟨v,rfl,hov⟩,hx1⟩;(obtain ⟨g,cap,rfl,d0,d1,d2,d3,d4,d5⟩:=hov.six);clear hov))
    have z0:∀D:Aft w1,D.w.cell? ⟨g,0,none⟩=some (.int .i64 (y:Nat)):=Aft.cell d0
    have z1:∀D:Aft w1,D.w.cell? ⟨g,1,none⟩=some (.int .i64 (m:Nat)):=Aft.cell d1
    have z2:∀D:Aft w1,D.w.cell? ⟨g,2,none⟩=some (.int .i64 (d:Nat)):=Aft.cell d2
    have z3:∀D:Aft w1,D.w.cell? ⟨g,3,none⟩=some (.int .i64 (h:Nat)):=Aft.cell d3
    have z4:∀D:Aft w1,D.w.cell? ⟨g,4,none⟩=some (.int .i64 (mi:Nat)):=Aft.cell d4
    have z5:∀D:Aft w1,D.w.cell? ⟨g,5,none⟩=some (.int .i64 (s:Nat)):=Aft.cell d5
    clear d0 d1 d2 d3 d4 d5
    refine rA ?_
    repeat (quiet_step ((go_at_call 118;with_reducible exact quiet_call_same' (HSE.out _))))
    refine wpQuiet_nil ?_
    rintro _ ⟨D,rfl⟩
    have hxD:=D.ext
    clear z0 z1 z2 z3 z4 z5
    go_wp2_with (first|(go_at_call 119;(have hz:=HFR.out D.w);(with_reducible refine Calls.mono hz ?_);clear hz;rintro e w3 ⟨rfl,hw3⟩;subst hw3)|(go_at_call 120;(have hz:=HOF.out D.w);(with_reducible refine Calls.mono hz ?_);clear hz;rintro e w4 ⟨rfl,hx4⟩))
    go_ret2
    exact ⟨by rw[HR.out];exact ⟨20,by decide,rfl⟩,((((Ext.refl w).alloc _).trans hx1).trans hxD).trans hx4⟩
   |true=>
    rw[if_pos rfl] at hfr
    have hTS:=timeP_some hstamp hfr
    cases ob with
    |false=>
     rw[if_neg (by decide)] at hO2
     rw[hO2] at hTS
     have HR:Hid (∀e,TimeR S.data.toList e=∃x:Int,x≠0∧e= .returned (.tuple #[.int .i64 0,.int .i64 x])):=gd (fun e=>by unfold TimeR;rw[hTS])
     clear hTS hstamp hfr hO2 hin
     go_enter Tryz.func71,Tryz.ntmps71
     go_wp2_with (first|(go_at_call 117;(have hz:=HGR.out);(with_reducible refine Calls.mono hz ?_);clear hz;rintro e w1 ⟨⟨v,rfl,hov⟩,hx1⟩;(obtain ⟨g,cap,rfl,d0,d1,d2,d3,d4,d5⟩:=hov.six);clear hov))
     have z0:∀D:Aft w1,D.w.cell? ⟨g,0,none⟩=some (.int .i64 (y:Nat)):=Aft.cell d0
     have z1:∀D:Aft w1,D.w.cell? ⟨g,1,none⟩=some (.int .i64 (m:Nat)):=Aft.cell d1
     have z2:∀D:Aft w1,D.w.cell? ⟨g,2,none⟩=some (.int .i64 (d:Nat)):=Aft.cell d2
     have z3:∀D:Aft w1,D.w.cell? ⟨g,3,none⟩=some (.int .i64 (h:Nat)):=Aft.cell d3
     have z4:∀D:Aft w1,D.w.cell? ⟨g,4,none⟩=some (.int .i64 (mi:Nat)):=Aft.cell d4
     have z5:∀D:Aft w1,D.w.cell? ⟨g,5,none⟩=some (.int .i64 (s:Nat)):=Aft.cell d5
     clear d0 d1 d2 d3 d4 d5
     refine rA ?_
     repeat (quiet_step ((go_at_call 118;with_reducible exact quiet_call_same' (HSE.out _))))
     refine wpQuiet_nil ?_
     rintro _ ⟨D,rfl⟩
     have hxD:=D.ext
     clear z0 z1 z2 z3 z4 z5
     go_wp2_with (first|(go_at_call 119;(have hz:=HFR.out D.w);(with_reducible refine Calls.mono hz ?_);clear hz;rintro e w3 ⟨rfl,hw3⟩;subst hw3)|(go_at_call 120;(have hz:=HOF.out D.w);(with_reducible refine Calls.mono hz ?_);clear hz;rintro e w4 ⟨rfl,hx4⟩))
     go_ret2
     exact ⟨by rw[HR.out];exact ⟨20,by decide,rfl⟩,((((Ext.refl w).alloc _).trans hx1).trans hxD).trans hx4⟩
    |true=>
     rw[if_pos rfl] at hO2
     have hoi:=offP_in hO2
     rw[hO2] at hTS
     simp only at hTS
     have hw:wrap64 (t - O)=t - O:=wrap_ok _ ⟨by omega,by omega⟩
     cases hT:inT (t - O) with
     |true=>
      rw[hT,if_pos rfl] at hTS
      have HR:Hid (∀e,TimeR S.data.toList e=(e= .returned (.tuple #[.int .i64 (t - O),.int .i64 0]))):=gd (fun e=>by unfold TimeR;rw[hTS])
      have hr: -62135596800≤t - O∧t - O≤253402300799:=by simpa [inT] using hT
      obtain ⟨X,hX⟩:∃X,t - O=X:=⟨_,rfl⟩
      rw[hX] at hr HR hw
      have q1:¬X< -62135596800:=by omega
      have q2:¬253402300799<X:=by omega
      clear hTS hstamp hfr hO2 hin hoi hT hr
      go_enter Tryz.func71,Tryz.ntmps71
      go_wp2_with (first|(go_at_call 117;(have hz:=HGR.out);(with_reducible refine Calls.mono hz ?_);clear hz;rintro e w1 ⟨⟨v,rfl,hov⟩,hx1⟩;(obtain ⟨g,cap,rfl,d0,d1,d2,d3,d4,d5⟩:=hov.six);clear hov))
      have z0:∀D:Aft w1,D.w.cell? ⟨g,0,none⟩=some (.int .i64 (y:Nat)):=Aft.cell d0
      have z1:∀D:Aft w1,D.w.cell? ⟨g,1,none⟩=some (.int .i64 (m:Nat)):=Aft.cell d1
      have z2:∀D:Aft w1,D.w.cell? ⟨g,2,none⟩=some (.int .i64 (d:Nat)):=Aft.cell d2
      have z3:∀D:Aft w1,D.w.cell? ⟨g,3,none⟩=some (.int .i64 (h:Nat)):=Aft.cell d3
      have z4:∀D:Aft w1,D.w.cell? ⟨g,4,none⟩=some (.int .i64 (mi:Nat)):=Aft.cell d4
      have z5:∀D:Aft w1,D.w.cell? ⟨g,5,none⟩=some (.int .i64 (s:Nat)):=Aft.cell d5
      clear d0 d1 d2 d3 d4 d5
      refine rA ?_
      repeat (quiet_step ((go_at_call 118;with_reducible exact quiet_call_same' (HSE.out _))))
      refine wpQuiet_nil ?_
      rintro _ ⟨D,rfl⟩
      have hxD:=D.ext
      clear z0 z1 z2 z3 z4 z5
      go_wp2_with (first|(go_at_call 119;(have hz:=HFR.out D.w);(with_reducible refine Calls.mono hz ?_);clear hz;rintro e w3 ⟨rfl,hw3⟩;subst hw3)|(go_at_call 120;(have hz:=HOF.out D.w);(with_reducible refine Calls.mono hz ?_);clear hz;rintro e w4 ⟨rfl,hx4⟩))
      go_ret2
      exact ⟨by rw[HR.out];rfl,((((Ext.refl w).alloc _).trans hx1).trans hxD).trans hx4⟩
     |false=>
      rw[hT,if_neg (by decide)] at hTS
      have HR:Hid (∀e,TimeR S.data.toList e=∃x:Int,x≠0∧e= .returned (.tuple #[.int .i64 0,.int .i64 x])):=gd (fun e=>by unfold TimeR;rw[hTS])
      have hr:t - O< -62135596800∨(¬t - O< -62135596800∧253402300799<t - O):=by
       have:¬(-62135596800≤t - O∧t - O≤253402300799):=fun h=>by rw[show inT (t - O)=true by simpa [inT] using h] at hT;cases hT
       omega
      obtain ⟨X,hX⟩:∃X,t - O=X:=⟨_,rfl⟩
      rw[hX] at hr hw
      clear hTS hstamp hfr hO2 hin hoi hT
      rcases hr with q1|⟨q1,q2⟩
      all_goals
       go_enter Tryz.func71,Tryz.ntmps71
       go_wp2_with (first|(go_at_call 117;(have hz:=HGR.out);(with_reducible refine Calls.mono hz ?_);clear hz;rintro e w1 ⟨⟨v,rfl,hov⟩,hx1⟩;(obtain ⟨g,cap,rfl,d0,d1,d2,d3,d4,d5⟩:=hov.six);clear hov))
       have z0:∀D:Aft w1,D.w.cell? ⟨g,0,none⟩=some (.int .i64 (y:Nat)):=Aft.cell d0
       have z1:∀D:Aft w1,D.w.cell? ⟨g,1,none⟩=some (.int .i64 (m:Nat)):=Aft.cell d1
       have z2:∀D:Aft w1,D.w.cell? ⟨g,2,none⟩=some (.int .i64 (d:Nat)):=Aft.cell d2
       have z3:∀D:Aft w1,D.w.cell? ⟨g,3,none⟩=some (.int .i64 (h:Nat)):=Aft.cell d3
       have z4:∀D:Aft w1,D.w.cell? ⟨g,4,none⟩=some (.int .i64 (mi:Nat)):=Aft.cell d4
       have z5:∀D:Aft w1,D.w.cell? ⟨g,5,none⟩=some (.int .i64 (s:Nat)):=Aft.cell d5
       clear d0 d1 d2 d3 d4 d5
       refine rA ?_
       repeat (quiet_step ((go_at_call 118;with_reducible exact quiet_call_same' (HSE.out _))))
       refine wpQuiet_nil ?_
       rintro _ ⟨D,rfl⟩
       have hxD:=D.ext
       clear z0 z1 z2 z3 z4 z5
       go_wp2_with (first|(go_at_call 119;(have hz:=HFR.out D.w);(with_reducible refine Calls.mono hz ?_);clear hz;rintro e w3 ⟨rfl,hw3⟩;subst hw3)|(go_at_call 120;(have hz:=HOF.out D.w);(with_reducible refine Calls.mono hz ?_);clear hz;rintro e w4 ⟨rfl,hx4⟩))
       go_ret2
       exact ⟨by rw[HR.out];exact ⟨3,by decide,rfl⟩,((((Ext.refl w).alloc _).trans hx1).trans hxD).trans hx4⟩
end
end Go.Proofs.YthlnaldahkgjnaaGreatDoor
