/- Parts of the proof: contracts and plain laws. -/
import Derived.Lib.AppendZerosOnto
import Derived.Lib.SliceRun
import Derived.Deep.MidRow
import Derived.Test.YtmfinhgobjbecaaGreatDoorA17
import Derived.Test.YtmfinhgobjbecaaGreatDoorA22
import Derived.Test.YtmfinhgobjbecaaGreatDoorA25
import Derived.Test.YtmfinhgobjbecaaGreatDoorA28
namespace Go.Proofs.YtmfinhgobjbecaaGreatDoor
open Go Go.RowKit _root_.Go.Proofs.Tryz
set_option linter.unusedVariables false
set_option linter.unusedSimpArgs false
set_option maxRecDepth 100000
set_option maxHeartbeats 16000000
theorem Zud {B size n g c:Nat} {e:TypeId}:∀(vs:List Value) (j:Nat) (w:Wq) (xs:List Value),w.ownsRow B e size (.slice (some ⟨g,0,none⟩) n c) n xs->j+vs.length<=n*size->
 (w.setCells g j vs).ownsRow B e size (.slice (some ⟨g,0,none⟩) n c) n (xs.take j++vs++xs.drop (j+vs.length))
 | [],j,w,xs,h,_=>by rw[Zrb,Zq5,Nat.add_zero,ZrR];exact h
 |v::r,j,w,xs,h,hl=>by
  have A:=h.1;rw[ZqK] at hl;have ih:=Zud r (j+1) _ _ (ZoZ h (j:=j) om v) om;have e1:(xs.set j v).take (j+1)=xs.take j++ [v]:=by rw[List.take_set,ZqQ (show j<xs.length by omega)];rw[List.set_append_right _ _ (by rw[Zra];omega)];rw[Zra,show j - min j xs.length=0 by omega];rfl
  have e2:(xs.set j v).drop (j+1+r.length)=xs.drop (j+(v::r).length):=by rw[ZqK,show j+(r.length+1)=j+1+r.length by omega,List.drop_set_of_lt om]
  rw[e1,e2,ZqY (xs.take j)] at ih;exact ih
theorem Ztb (g:Nat):∀(vs:List Value) (j:Nat) (w:Wq),w.grownBy (w.setCells g j vs) (some g)
 | [],j,w=>(Ext.refl w).grown (some g)
 |v::r,j,w=>(ZY w ⟨g,j,none⟩ v).trans (Ztb g r (j+1) _)
def urnZ:List UInt8:= [117,114,110,58,122]
def oth1 (nm:List UInt8):Nd:= .mk 0 urnZ nm [] [.mk 1 [] [] [] [] [120] 0] [] 0
def oth2 (nm:List UInt8):Nd:= .mk 0 atomL (120::45::nm) [] [] [] 0
def othE (nm:List UInt8):List Nd:= [oth1 nm,oth2 nm]
def othA (nm:List UInt8):AtP:=⟨urnZ,nm,[118],0⟩
def isMod (k:Nd):Bool:=k.kind==0 && (k.name==entryL||k.name==linkL)
def modN (nm:List UInt8) (k:Nd):Nd:=if isMod k then .mk k.kind k.space k.name (othA nm::k.attrs) (othE nm++k.kids) k.text k.at_ else k
def igN (nm:List UInt8) (n:Nd):Nd:= .mk n.kind n.space n.name n.attrs ((othE nm++n.kids++othE nm).map (modN nm)) n.text n.at_
theorem Zs7 (nm:List UInt8) (k:Nd):(modN nm k).kind=k.kind/\(modN nm k).space=k.space/\(modN nm k).name=k.name/\(modN nm k).text=k.text/\(modN nm k).at_=k.at_:=by
 unfold modN;split<;>exact ⟨rfl,rfl,rfl,rfl,rfl⟩
theorem ZuJ (sp z nm:List UInt8) (k:Nd):isE sp z (modN nm k)=isE sp z k:=by
 obtain ⟨h,A,C, -, -⟩:=Zs7 nm k;unfold isE;rw[h,A,C]
theorem ZuN:(urnZ==atomL)=false:=by decide
def noX (z:List UInt8):Prop:=z.head?≠some 120
theorem Zuo {z nm:List UInt8} (C:noX z):(othE nm).filter (isE atomL z)= []:=by
 have h:isE atomL z (oth1 nm)=false:=by unfold isE;rw[show (oth1 nm).space=urnZ from rfl,ZuN];simp
 have A:isE atomL z (oth2 nm)=false:=by
  unfold isE;have:((oth2 nm).name==z)=false:=by rw[ZqW];intro e;exact C (by rw[<-e];rfl)
  rw[this];simp
 unfold othE;rw[List.filter_cons,h,List.filter_cons,A];rfl
theorem Zut {z nm:List UInt8} (h:noX z) (a:Nat) (b c:List UInt8) (d e:List AtP) (ks:List Nd) (t:List UInt8) (p:Nat):kidsE atomL z (.mk a b c d (othE nm++ks) t p)=kidsE atomL z (.mk a b c e ks t p):=by
 unfold kidsE;show (othE nm++ks).filter _=ks.filter _;rw[List.filter_append,Zuo h,Zrl]
theorem Zs8 {z nm:List UInt8} (h:noX z) (k:Nd):kidsE atomL z (modN nm k)=kidsE atomL z k:=by
 unfold modN;split
 ·obtain ⟨a,b,c,d,ks,t,p⟩:=k;exact Zut h a b c _ d ks t p
 ·rfl
theorem ZtL {z nm:List UInt8} (h:noX z) (n:Nd):kidsE atomL z (igN nm n)=(kidsE atomL z n).map (modN nm):=by
 unfold kidsE;show ((othE nm++n.kids++othE nm).map (modN nm)).filter (isE atomL z)=(n.kids.filter (isE atomL z)).map (modN nm);rw[List.filter_map,show isE atomL z∘modN nm=isE atomL z from funext λk=>ZuJ atomL z nm k,List.filter_append,List.filter_append,Zuo h,Zrl,Zrb]
theorem Zs9 {z nm:List UInt8} (D:noX z) (h:z≠entryL) (A:z≠linkL) (n:Nd):kidsE atomL z (igN nm n)=kidsE atomL z n:=by
 rw[ZtL D]
 conv=>rhs;rw[<-List.map_id' (kidsE atomL z n)]
 refine List.map_congr_left λk C=> ?_;obtain ⟨-, -,F⟩:=Ji C;unfold modN isMod;rw[F,ZqW.2 h,ZqW.2 A];simp
theorem ZtM (nm z:List UInt8) (k:Nd):attrL (modN nm k) z=attrL k z:=by
 unfold modN;split
 ·unfold attrL attrIn;show ((othA nm::k.attrs).find? _).map _=(k.attrs.find? _).map _;rw[List.find?_cons_of_neg];simp[othA,urnZ]
 ·rfl
theorem Zum (nm:List UInt8) (k:Nd):linkOk (modN nm k)=linkOk k:=by unfold linkOk;rw[ZtM,ZtM]
theorem ZuD (nm:List UInt8) (n:Nd):linkN (igN nm n)=linkN n:=by
 unfold linkN;rw[ZtL (show noX linkL by unfold noX;decide),List.find?_map,show linkOk∘modN nm=linkOk from funext λk=>Zum nm k];cases (kidsE atomL linkL n).find? linkOk with
 |none=>rfl
 |some k=>show (attrL (modN nm k) hrefL).getD []=_;rw[ZtM]
structure alikeA (m n:Nd):Prop where
 id:kidsE atomL idL m=kidsE atomL idL n
 title:kidsE atomL titleL m=kidsE atomL titleL n
 link:linkN m=linkN n
 upd:kidsE atomL updatedL m=kidsE atomL updatedL n
 cont:kidsE atomL contentL m=kidsE atomL contentL n
 summ:kidsE atomL summaryL m=kidsE atomL summaryL n
 pos:m.at_=n.at_
theorem Zta {z:List UInt8} {m n:Nd} (h:kidsE atomL z m=kidsE atomL z n):txtOf z m=txtOf z n:=by unfold txtOf firstT;rw[h]
theorem alikeA.com {m n:Nd} (h:alikeA m n):comA m=comA n:=by unfold comA;rw[Zta h.id,h.upd,h.pos]
theorem alikeA.ent {m n:Nd} (h:alikeA m n) (t:Int):entA m t=entA n t:=by
 have A:contN m=contN n:=by unfold contN;rw[Zta h.summ];unfold firstT;rw[h.cont]
 unfold entA;rw[Zta h.id,Zta h.title,h.link,A]
theorem alikeA.mod (nm:List UInt8) (k:Nd):alikeA (modN nm k) k:=
 ⟨Zs8 (by unfold noX;decide) k,Zs8 (by unfold noX;decide) k,by unfold linkN;rw[Zs8 (by unfold noX;decide) k],Zs8 (by unfold noX;decide) k,Zs8 (by unfold noX;decide) k,Zs8 (by unfold noX;decide) k,(Zs7 nm k).2.2.2.2⟩
theorem alikeA.ig (nm:List UInt8) (n:Nd):alikeA (igN nm n) n:=
 ⟨Zs9 (by unfold noX;decide) (by decide) (by decide) n,Zs9 (by unfold noX;decide) (by decide) (by decide) n,ZuD nm n,Zs9 (by unfold noX;decide) (by decide) (by decide) n,Zs9 (by unfold noX;decide) (by decide) (by decide) n,Zs9 (by unfold noX;decide) (by decide) (by decide) n,rfl⟩
theorem ZtT (nm:List UInt8):∀l:List Nd,entsA (l.map (modN nm))=entsA l
 | []=>rfl
 |k::t=>by
  rw[Zq8,entsA,entsA,ZtT nm t,(alikeA.mod nm k).com]
  cases comA k with
  |error x=>rfl
  |ok u=>
   dsimp only
   cases entsA t with
   |error x=>rfl
   |ok m=>dsimp only;rw[(alikeA.mod nm k).ent]
theorem ZuH (nm:List UInt8) (n:Nd):decA (igN nm n)=decA n:=by
 have h:=alikeA.ig nm n;unfold decA;rw[show (igN nm n).kind=n.kind from rfl,show (igN nm n).space=n.space from rfl,show (igN nm n).name=n.name from rfl,h.pos,h.com,ZtL (show noX entryL by unfold noX;decide),ZtT];have A:∀t l,fdA (igN nm n) t l=fdA n t l:=λt l=>by unfold fdA;rw[Zta h.id,Zta h.title,h.link]
 split
 ·rfl
 ·cases comA n with
  |error x=>rfl
  |ok t=>
   dsimp only;cases entsA (kidsE atomL entryL n) with
   |error x=>rfl
   |ok l=>dsimp only;rw[A]
theorem ZtN {a:AtP} {N N':Nat} (A:N<=N') (h:a.fd N):a.fd N':=⟨ZqM h.1 om,ZqM h.2.1 A,ZqM h.2.2 om⟩
mutual
theorem ZtK {N N':Nat} (hN:N<=N'):∀n:Nd,n.fd N->n.fd N'
 | .mk k s m al ks t a,h=>by
  rw[Nd.fd] at h|-
  obtain ⟨h1,h2,h3,h4,h5,h6,h7,h8,h9⟩:=h
  exact ⟨h1,by omega,by omega,by omega,λb hb=>ZtN hN (h5 b hb),by omega,by omega,trivial,Zt2 hN ks h9⟩
theorem Zt2 {N N':Nat} (hN:N<=N'):∀l:List Nd,Nds.fd N l->Nds.fd N' l
 | [],_=>by rw[Nds.fd];trivial
 |x::t,h=>by
  rw[Nds.fd] at h|-
  exact ⟨ZtK hN x h.1,Zt2 hN t h.2⟩
end
theorem ZtI {nm:List UInt8} (h:nm.length<=50):∀k∈othE nm,k.fd 6000/\k.cnt<=2/\k.txt.length<=1:=by
 intro k C;unfold othE at C;simp only[Zq1,List.not_mem_nil,ZrD] at C;rcases C with rfl|rfl
 ·refine ⟨?_,(by unfold oth1;rw[Nd.cnt,Nds.cnt,Nd.cnt,Nds.cnt];decide),?_⟩
  ·unfold oth1;rw[Nd.fd,Nds.fd,Nd.fd,Nds.fd];exact ⟨by decide,by decide,om,ZqO _,(by intro b A;cases A),by decide,ZqO _,trivial,⟨by decide,ZqO _,ZqO _,ZqO _,(by intro b A;cases A),ZqO _,by decide,trivial,trivial⟩,trivial⟩
  ·unfold oth1;rw[Nd.txt,ZqH (by decide),Nds.txt,Nd.txt,ZqN rfl,Nds.txt];decide
 ·refine ⟨?_,?_,?_⟩
  ·unfold oth2;rw[Nd.fd,Nds.fd];refine ⟨by decide,by decide,?_,ZqO _,(by intro b A;cases A),ZqO _,ZqO _,trivial,trivial⟩;rw[ZqK,ZqK];omega
  ·unfold oth2;rw[Nd.cnt,Nds.cnt];decide
  ·unfold oth2;rw[Nd.txt,ZqH (by decide),Nds.txt];decide
theorem Zuv {nm:List UInt8}:(Nds.txt (othE nm)).length<=1:=by
 unfold othE oth1 oth2;rw[Nds.txt,Nds.txt,Nds.txt,Nd.txt,ZqH (by decide),Nd.txt,ZqH (by decide),Nds.txt,Nds.txt,Nd.txt,ZqN rfl];decide
theorem Zuc {nm:List UInt8}:Nds.cnt (othE nm)=3:=by
 unfold othE oth1 oth2;rw[Nds.cnt,Nds.cnt,Nds.cnt,Nd.cnt,Nd.cnt,Nds.cnt,Nds.cnt,Nd.cnt,Nds.cnt]
theorem Zun {nm:List UInt8} (h:nm.length<=50) {k:Nd} (D:k.fd 5000):(modN nm k).fd 6000:=by
 unfold modN;split
 ·obtain ⟨kk,s,m,al,ks,t,a⟩:=k;rw[Nd.fd] at D;obtain ⟨F,J,O,Q,H,R,S,U,I⟩:=D;show (Nd.mk kk s m (othA nm::al) (othE nm++ks) t a).fd 6000;rw[Nd.fd];refine ⟨F,om,om,by rw[ZqK];omega,λb C=> ?_,by rw[ZqG];have:(othE nm).length=2:=rfl;omega,om,trivial,(Nds.fd_iff _).2 λy A=> ?_⟩
  ·rcases Zq1.1 C with rfl|C
   ·exact ⟨by show urnZ.length<=_;decide,by show nm.length<=6000;omega,by show 1<=_;decide⟩
   ·exact ZtN (by decide) (H b C)
  ·rcases Zq0.1 A with A|A
   ·exact (ZtI h y A).1
   ·exact ZtK (by decide) y ((Nds.fd_iff _).1 I y A)
 ·exact ZtK (by decide) _ D
theorem Zuq (nm:List UInt8) (k:Nd):(modN nm k).cnt<=k.cnt+3:=by
 unfold modN;split
 ·obtain ⟨kk,s,m,al,ks,t,a⟩:=k;show (Nd.mk kk s m (othA nm::al) (othE nm++ks) t a).cnt<=_;rw[Nd.cnt,Nd.cnt,Nds.cnt_app,Zuc];omega
 ·omega
theorem Zub (nm:List UInt8):∀l:List Nd,Nds.cnt (l.map (modN nm))<=Nds.cnt l+3*l.length
 | []=>by rw[Zrz,Nds.cnt];omega
 |k::t=>by
  have h:=Zuq nm k
  have A:=Zub nm t
  rw[Zq8,Nds.cnt,Nds.cnt,ZqK]
  omega
theorem ZuK (nm:List UInt8) (k:Nd) (A:k.kind=0):(modN nm k).txt.length<=k.txt.length+1:=by
 unfold modN;split
 ·obtain ⟨kk,s,m,al,ks,t,a⟩:=k;have h:kk=0:=A;subst h;show (Nd.mk 0 s m (othA nm::al) (othE nm++ks) t a).txt.length<=_;rw[Nd.txt,ZqH (by decide),Nd.txt,ZqH (by decide),J2,ZqG];have:=Zuv (nm:=nm);omega
 ·omega
theorem ZtP {nm:List UInt8} (h:nm.length<=50) {k:Nd} (C:k∈othE nm):(modN nm k).fd 6000:=by
 unfold othE at C;simp only[Zq1,List.not_mem_nil,ZrD] at C;refine Zun h ?_;rcases C with rfl|rfl
 ·unfold oth1;rw[Nd.fd,Nds.fd,Nd.fd,Nds.fd];exact ⟨by decide,by decide,om,ZqO _,(by intro b A;cases A),by decide,ZqO _,trivial,⟨by decide,ZqO _,ZqO _,ZqO _,(by intro b A;cases A),ZqO _,by decide,trivial,trivial⟩,trivial⟩
 ·unfold oth2;rw[Nd.fd,Nds.fd];refine ⟨by decide,by decide,?_,ZqO _,(by intro b A;cases A),ZqO _,ZqO _,trivial,trivial⟩;rw[ZqK,ZqK];omega
theorem ZuQ {nm:List UInt8} (F:nm.length<=50) {n:Nd} (h:amOk 5000 5000 10000 n):amOk 6000 30000 20000 (igN nm n):=by
 obtain ⟨⟨H,h2,Z,h4⟩,h5⟩:=h;have ha:n.kids.length<=5000:=by obtain ⟨kk,s,m,al,ks,t,a⟩:=n;rw[Nd.fd] at H;exact H.2.2.2.2.2.1
 have D:((othE nm++n.kids++othE nm).map (modN nm)).length=n.kids.length+4:=by have:(othE nm).length=2:=rfl;rw[Zq9,ZqG,ZqG];omega
 have U:∀y∈(othE nm++n.kids++othE nm).map (modN nm),y.fd 6000:=by
  intro y C;obtain ⟨k,A,rfl⟩:=Zrr.1 C;rw[Zq0,Zq0] at A;rcases A with (A|A)|A
  ·exact ZtP F A
  ·exact Zun F (Ze9 H A)
  ·exact ZtP F A
 have R:(igN nm n).fd 6000:=by obtain ⟨kk,s,m,al,ks,t,a⟩:=n;rw[Nd.fd] at H;obtain ⟨X,g2,g3,g4,Y,g6,g7,g8,g9⟩:=H;unfold igN;rw[Nd.fd];exact ⟨X,by show s.length<=_;omega,by show m.length<=_;omega,by show al.length<=_;omega,λb hb=>ZtN (by decide) (Y b hb),by rw[D];omega,by show t.length<=_;omega,trivial,(Nds.fd_iff _).2 U⟩
 have Q:(igN nm n).cnt<=30000:=by
  have q1:=Zub nm (othE nm++n.kids++othE nm);have q2:(othE nm++n.kids++othE nm).length=n.kids.length+4:=by rw[<-D,Zq9]
  rw[q2,Nds.cnt_app,Nds.cnt_app,Zuc] at q1;have q3:1+Nds.cnt n.kids=n.cnt:=by obtain ⟨kk,s,m,al,ks,t,a⟩:=n;rw[Nd.cnt];rfl
  unfold igN;rw[Nd.cnt];omega
 have S:∀k∈(igN nm n).kids,k.kind=0->k.name≠entryL->k.txt.length<=20000:=by
  intro y C J O;obtain ⟨k,A,rfl⟩:=Zrr.1 (show y∈(othE nm++n.kids++othE nm).map (modN nm) from C);have I:k.kind=0:=by rw[(Zs7 nm k).1] at J;exact J
  have V:k.name≠entryL:=by rw[(Zs7 nm k).2.2.1] at O;exact O
  have q:=ZuK nm k I;rw[Zq0,Zq0] at A;rcases A with (A|A)|A
  ·have:=(ZtI F k A).2.2;omega
  ·have:=h4 k A I V;omega
  ·have:=(ZtI F k A).2.2;omega
 refine ⟨⟨R,Q,Z,S⟩,λk A=> ?_⟩;rw[ZtL (show noX entryL by unfold noX;decide)] at A;obtain ⟨e,he,rfl⟩:=Zrr.1 A;obtain ⟨e1,e2,e3,e4⟩:=h5 e he;refine ⟨Zun F e1,by have:=Zuq nm e;omega,by rw[(Zs7 nm e).1];exact e3,λy C J O=> ?_⟩;unfold modN at C;split at C
 ·rcases Zq0.1 (show y∈othE nm++e.kids from C) with C|C
  ·have:=(ZtI F y C).2.2;omega
  ·have:=e4 y C J O;omega
 ·have:=e4 y C J O;omega
theorem Zt3:(prog.info? 53).map (λi=>(i.zero,i.size,i.bytes))=some (some (.agg #[.string ⟨#[]⟩,.string ⟨#[]⟩,.string ⟨#[]⟩,.int .i64 0]),4,56):=by kernel_rfl
theorem ZtR:prog.underlying 23=some (.slice (prog.elem 23)):=by kernel_rfl
theorem ZtW (w:World):(Go.sizeOf (prog.elem 23)).run prog w= .ok 7 w:=by kernel_rfl
theorem Zuh (n:Nat) (w:World) (hn:n<=1000000):
 Calls prog 55 #[.slice none 0 0,.int .i64 n] w λe w'=>∃(X:Option Addr) (Y:Nat),e= .returned (.slice X 0 Y)/\w'.ownsRow w.heap.size 25 7 (.slice X 0 Y) 0 []/\Ext w w':=by
 obtain ⟨i0,I,J,V,F⟩:=ZrE Xn;rcases ZrX n with O|O
 ·subst O;go_enter func55,ntmps55;go_wp2;go_ret;exact ⟨none,0,rfl,Zrt _ _ _ _,Ext.refl _⟩
 ·obtain ⟨G,Q⟩:∃G,G=grownCap w n 0 25:=⟨_,rfl⟩;have hc:n<=G:=by rw[Q];exact grownCap_ge w _ _ _
  have H:G<=maxLen:=by rw[Q];exact grownCap_le_maxLen w _ _ _ (by unfold maxLen;omega)
  have D:∀ty,(Builtin.append_ #[23,3] ty #[.slice none 0 0,.int .i64 (n:Int)]).run prog w=
   .ok (.slice (some ⟨w.heap.size,0,none⟩) n G) (w.drew.alloc (.cells ((([]:List Value).toArray++Builtin.zeroCells (Value.agg #[.int .i64 0,.string ⟨#[]⟩,.string ⟨#[]⟩,.slice none 0 0,.slice none 0 0,.string ⟨#[]⟩,.int .i64 0]).cells n++Builtin.zeroCells (Value.agg #[.int .i64 0,.string ⟨#[]⟩,.string ⟨#[]⟩,.slice none 0 0,.slice none 0 0,.string ⟨#[]⟩,.int .i64 0]).cells (G - n))) 25)):=λty=>by
   have h:=Lib.run_append_grow_zeros w 23 3 ty 25 i0 _ .i64 .i64 underlying23 underlying3 I J none 0 0 [] (run_firstCells_none w.drew i0.size 0 0 0) n O om om om
    (by rw[F];omega) (by rw[F,ZrH];exact growslice_fits O om)
   rw[ZrH,<-Q] at h
   exact h
  have ha:∀A:World,(Instr.slice 23 (.slice none 0 0) none (some (.int .i64 0)) none).run prog A= .ok (.slice none 0 0) A:=λA=>by rw[run_slice_h (P:=prog) (w:=A) 23 none 0 0 ZtR .i64 0 om om,ZtW];rfl
  have hb:∀A:World,(Instr.slice 23 (.slice (some ⟨w.heap.size,0,none⟩) n G) none (some (.int .i64 0)) none).run prog A= .ok (.slice (some ⟨w.heap.size,0,none⟩) 0 G) A:=λA=>by rw[run_slice_h (P:=prog) (w:=A) 23 (some ⟨w.heap.size,0,none⟩) n G ZtR .i64 0 om om,ZtW];show Result.ok (sliced (some ⟨w.heap.size,0,none⟩) 0 0 G 7) A=_;unfold sliced;have:G≠0:=om;rw[ZqH this];rfl
  have U:(((([]:List Value).toArray++Builtin.zeroCells (Value.agg #[.int .i64 0,.string ⟨#[]⟩,.string ⟨#[]⟩,.slice none 0 0,.slice none 0 0,.string ⟨#[]⟩,.int .i64 0]).cells n++Builtin.zeroCells (Value.agg #[.int .i64 0,.string ⟨#[]⟩,.string ⟨#[]⟩,.slice none 0 0,.slice none 0 0,.string ⟨#[]⟩,.int .i64 0]).cells (G - n)))).size=G*7:=by simp only[Array.size_append,List.size_toArray,Zq5,size_zeroCells];show 0+n*7+(G - n)*7=G*7;omega
  obtain ⟨Z,C⟩:∃Z,((([]:List Value).toArray++Builtin.zeroCells (Value.agg #[.int .i64 0,.string ⟨#[]⟩,.string ⟨#[]⟩,.slice none 0 0,.slice none 0 0,.string ⟨#[]⟩,.int .i64 0]).cells n++Builtin.zeroCells (Value.agg #[.int .i64 0,.string ⟨#[]⟩,.string ⟨#[]⟩,.slice none 0 0,.slice none 0 0,.string ⟨#[]⟩,.int .i64 0]).cells (G - n)))=Z:=⟨_,rfl⟩;simp only[C] at D;rw[C] at U;have S:=gd D;have R:=gd H;have HZ:=gd U;have hd:(0:Int)<(n:Int):=om
  clear D C U Q H I J V F;go_enter func55,ntmps55
  go_wp2_with (at_builtin;refine Lib.wpList_append_run _ rfl _ _ _ _ rfl _ _ rfl rfl _ _ (S.out _) ?_)
  go_ret;exact ⟨some ⟨w.heap.size,0,none⟩,G,rfl,⟨rfl,.inr ⟨w.heap.size,G,Z,rfl,ZqE _,ZqJ w.drew _,ZqO _,R.out,HZ.out,by simp⟩⟩,(Ext.refl w).drew.alloc _⟩
def lensNd (L:List (Value×List Nc)):Nat:=(L.map λp=>p.2.length).sum
def catNd (L:List (Value×List Nc)):List Nc:=(L.map Prod.snd).flatten
theorem Zt9 (L:List (Value×List Nc)) (p:Value×List Nc):lensNd (L++ [p])=lensNd L+p.2.length:=by unfold lensNd;simp
theorem Zuf (L:List (Value×List Nc)) (p:Value×List Nc):catNd (L++ [p])=catNd L++p.2:=by unfold catNd;simp
theorem Zus (L:List (Value×List Nc)):(catNd L).length=lensNd L:=by unfold catNd lensNd;rw[List.length_flatten,ZsX];rfl
theorem Zua (L:List (Value×List Nc)) (k:Nat):lensNd (L.take k)<=lensNd L:=by
 have h:lensNd L=lensNd (L.take k)+lensNd (L.drop k):=by unfold lensNd;rw[<-ZsS,<-Zrf,ZrR]
 omega
theorem ZtY (v:Value) (L:List (Value×List Nc)) (w:World) (hv:RSl w 1 v L.length (L.map Prod.fst)) (hp:∀p∈L,RSl w 7 p.1 p.2.length (p.2.map cellsN).flatten/\∀u∈(p.2.map cellsN).flatten,u.oneCell'=true) (hn:L.length<=1000) (ht:lensNd L<=1000000):
 Calls prog 23 #[v] w λe w'=>∃v',e= .returned v'/\w'.ownsRow w.heap.size 25 7 v' (catNd L).length ((catNd L).map cellsN).flatten/\Ext w w':=by
 obtain ⟨i0,hg,hw,hx,hy⟩:=ZrE Xn;obtain ⟨A,c,rfl⟩:∃A c,v= .slice A L.length c:=by obtain ⟨_,A,c,e,_⟩:=hv;exact ⟨A,c,e⟩
 have HV:=gd hv;have HP:=gd hp;have HT:=gd (λk=>ZqM (Zua L k) ht);clear hp hv ht;go_enter func23,ntmps23;go_wp2
 go_loop [3,11] (λs i=>∃k n:Nat,k<=L.length/\i= .int .i64 k/\s= .int .i64 n/\n<=1000000/\Hid (n=lensNd (L.take k))) (λ_ i=>L.length - (intOf i).toNat)
 case atStart=>exact ⟨0,0,ZqO _,rfl,rfl,ZqO _,gd rfl⟩
 case round=>
  obtain ⟨k,n,hk,rfl,rfl,hi,U⟩:=hrel;by_cases C:k<L.length
  ·have H:(L.map Prod.fst)[k]? =some L[k].1:=(by rw[Zrq,ZqL C];rfl);obtain ⟨ad,e1,Z⟩:=RSl.at1 HV.out k _ H;subst e1;have Q:=ZqQ C;have D:=HP.out _ (Zq2 C);have J:=Zt9 (L.take k) L[k];rw[<-Q,<-U.out] at J;have V:=HT.out (k+1);obtain ⟨pA,pc,F, -, -⟩:=D.1.form;rw[F] at Z;obtain ⟨m,hm⟩:∃m,L[k].2.length=m:=⟨_,rfl⟩;rw[hm] at Z J;have hq:n+m<=1000000:=om;have HS:=gd J;have ha:(0:Int)<=(k:Int):=om;have hh:(k:Int)<(L.length:Int):=om;clear hm F J V Q H D;go_wp2
   go_round
   case rel=>exact ⟨k+1,n+m,C,by go_num,by go_num,hq,gd HS.out.symm⟩
   case measure=>simp[intOf];omega
  ·have S:k=L.length:=om;subst S;have hD:=gd U.out;clear U;have HG:=gd (Zuh n w hi)
   go_wp2_with (first|(go_at_call 55;have hz:=HG.out;refine ZqD hz ?_;clear hz;rintro e w1 ⟨gA,gc,rfl,hb,hr⟩))
   go_loopw [6,27] (λu i wr=>∃(k:Nat) (uA:Option Addr) (uc:Nat),u= .slice uA (catNd (L.take k)).length uc/\k<=L.length/\i= .int .i64 k/\wr.ownsRow w.heap.size 25 7 u (catNd (L.take k)).length ((catNd (L.take k)).map cellsN).flatten/\Ext w wr) (λ_ i _=>L.length - (intOf i).toNat)
   case atStart=>exact ⟨0,gA,gc,rfl,ZqO _,rfl,hb,hr⟩
   case round=>
    obtain ⟨k,uA,uc,rfl,hk,rfl,h,R⟩:=hrel;by_cases C:k<L.length
    ·have H:(L.map Prod.fst)[k]? =some L[k].1:=(by rw[Zrq,ZqL C];rfl);obtain ⟨ad,e1,Z⟩:=RSl.at1 (HV.out.ext R) k _ H;subst e1;have Q:=ZqQ C;have D:=HP.out _ (Zq2 C);have J:=Zuf (L.take k) L[k];rw[<-Q] at J;have V:=HT.out (k+1);rw[<-Zus,J,ZqG] at V;obtain ⟨pA,pc,F, -, -⟩:=D.1.form;rw[F] at Z;obtain ⟨P,hP⟩:∃P,L[k].2=P:=⟨_,rfl⟩;rw[hP] at Z J V D F;rw[F] at D;obtain ⟨O,hO⟩:∃O,catNd (L.take k)=O:=⟨_,rfl⟩;rw[hO] at J V h;simp only[hO];have HS:=gd J;have X:=gd h;have Y:=gd D;have he:Hid (O.length+P.length<=maxLen):=gd (by unfold maxLen;omega);have hd:Hid ((O.length+P.length)*112<=140737488355328):=gd om;have hws:=R.size;have ha:(0:Int)<=(k:Int):=om;have hh:(k:Int)<(L.length:Int):=om;clear hP F J V Q H D hO h
     go_wp2_with (first|(at_builtin;refine Za _ rfl (.tmp 31) (.tmp 32) _ rfl w.heap.size 25 i0 _ 7 112 underlying23 hg hw hx hy rfl (by decide) _ O.length (O.map cellsN).flatten rfl X.out _ P.length (P.map cellsN).flatten rfl (Y.out.1.ext R) Y.out.2 he.out hd.out hws ?_;intro v3 w3 I hf hC;have hu:Ext w w3:=Ext.app R hf X.out (ZqE _);obtain ⟨hA,hB,hj, -, -⟩:=(RSl.of_own I).2;subst hj))
     go_roundw
     case rel=>have hl:(catNd (L.take (k+1))).length=O.length+P.length:=(by rw[HS.out,ZqG]);refine ⟨k+1,hA,hB,by rw[hl],C,by go_num,?_,hu⟩;rw[hl,HS.out,Zrf,ZsP];exact I
     case measure=>simp[intOf];omega
    ·have S:k=L.length:=om;subst S;have ho:L.take L.length=L:=Zq4 (ZqE _);rw[ho] at h|-;go_wp2;go_ret;exact ⟨_,rfl,h,R⟩
theorem ZtQ:prog.underlying 22=some (.slice (prog.elem 22)):=by kernel_rfl
theorem ZtV (w:World):(Go.sizeOf (prog.elem 22)).run prog w= .ok 4 w:=by kernel_rfl
theorem Zug (n:Nat) (w:World) (hn:n<=1000000):
 Calls prog 56 #[.slice none 0 0,.int .i64 n] w λe w'=>∃(X:Option Addr) (Y:Nat),e= .returned (.slice X 0 Y)/\w'.ownsRow w.heap.size 53 4 (.slice X 0 Y) 0 []/\Ext w w':=by
 obtain ⟨i0,I,J,V,F⟩:=ZrE Zt3;rcases ZrX n with O|O
 ·subst O;go_enter func56,ntmps56;go_wp2;go_ret;exact ⟨none,0,rfl,Zrt _ _ _ _,Ext.refl _⟩
 ·obtain ⟨G,Q⟩:∃G,G=grownCap w n 0 53:=⟨_,rfl⟩;have hc:n<=G:=by rw[Q];exact grownCap_ge w _ _ _
  have H:G<=maxLen:=by rw[Q];exact grownCap_le_maxLen w _ _ _ (by unfold maxLen;omega)
  have D:∀ty,(Builtin.append_ #[22,3] ty #[.slice none 0 0,.int .i64 (n:Int)]).run prog w=
   .ok (.slice (some ⟨w.heap.size,0,none⟩) n G) (w.drew.alloc (.cells ((([]:List Value).toArray++Builtin.zeroCells (Value.agg #[.string ⟨#[]⟩,.string ⟨#[]⟩,.string ⟨#[]⟩,.int .i64 0]).cells n++Builtin.zeroCells (Value.agg #[.string ⟨#[]⟩,.string ⟨#[]⟩,.string ⟨#[]⟩,.int .i64 0]).cells (G - n))) 53)):=λty=>by
   have h:=Lib.run_append_grow_zeros w 22 3 ty 53 i0 _ .i64 .i64 underlying22 underlying3 I J none 0 0 [] (run_firstCells_none w.drew i0.size 0 0 0) n O om om om
    (by rw[F];omega) (by rw[F,ZrH];exact growslice_fits O om)
   rw[ZrH,<-Q] at h
   exact h
  have ha:∀A:World,(Instr.slice 22 (.slice none 0 0) none (some (.int .i64 0)) none).run prog A= .ok (.slice none 0 0) A:=λA=>by rw[run_slice_h (P:=prog) (w:=A) 22 none 0 0 ZtQ .i64 0 om om,ZtV];rfl
  have hb:∀A:World,(Instr.slice 22 (.slice (some ⟨w.heap.size,0,none⟩) n G) none (some (.int .i64 0)) none).run prog A= .ok (.slice (some ⟨w.heap.size,0,none⟩) 0 G) A:=λA=>by rw[run_slice_h (P:=prog) (w:=A) 22 (some ⟨w.heap.size,0,none⟩) n G ZtQ .i64 0 om om,ZtV];show Result.ok (sliced (some ⟨w.heap.size,0,none⟩) 0 0 G 4) A=_;unfold sliced;have:G≠0:=om;rw[ZqH this];rfl
  have U:(((([]:List Value).toArray++Builtin.zeroCells (Value.agg #[.string ⟨#[]⟩,.string ⟨#[]⟩,.string ⟨#[]⟩,.int .i64 0]).cells n++Builtin.zeroCells (Value.agg #[.string ⟨#[]⟩,.string ⟨#[]⟩,.string ⟨#[]⟩,.int .i64 0]).cells (G - n)))).size=G*4:=by simp only[Array.size_append,List.size_toArray,Zq5,size_zeroCells];show 0+n*4+(G - n)*4=G*4;omega
  obtain ⟨Z,C⟩:∃Z,((([]:List Value).toArray++Builtin.zeroCells (Value.agg #[.string ⟨#[]⟩,.string ⟨#[]⟩,.string ⟨#[]⟩,.int .i64 0]).cells n++Builtin.zeroCells (Value.agg #[.string ⟨#[]⟩,.string ⟨#[]⟩,.string ⟨#[]⟩,.int .i64 0]).cells (G - n)))=Z:=⟨_,rfl⟩;simp only[C] at D;rw[C] at U;have S:=gd D;have R:=gd H;have HZ:=gd U;have hd:(0:Int)<(n:Int):=om
  clear D C U Q H I J V F;go_enter func56,ntmps56
  go_wp2_with (at_builtin;refine Lib.wpList_append_run _ rfl _ _ _ _ rfl _ _ rfl rfl _ _ (S.out _) ?_)
  go_ret;exact ⟨some ⟨w.heap.size,0,none⟩,G,rfl,⟨rfl,.inr ⟨w.heap.size,G,Z,rfl,ZqE _,ZqJ w.drew _,ZqO _,R.out,HZ.out,by simp⟩⟩,(Ext.refl w).drew.alloc _⟩
def lensAt (L:List (Value×List AtP)):Nat:=(L.map λp=>p.2.length).sum
def catAt (L:List (Value×List AtP)):List AtP:=(L.map Prod.snd).flatten
theorem Zt7 (L:List (Value×List AtP)) (p:Value×List AtP):lensAt (L++ [p])=lensAt L+p.2.length:=by unfold lensAt;simp
theorem Zue (L:List (Value×List AtP)) (p:Value×List AtP):catAt (L++ [p])=catAt L++p.2:=by unfold catAt;simp
theorem Zur (L:List (Value×List AtP)):(catAt L).length=lensAt L:=by unfold catAt lensAt;rw[List.length_flatten,ZsX];rfl
theorem Zt8 (L:List (Value×List AtP)) (k:Nat):lensAt (L.take k)<=lensAt L:=by
 have h:lensAt L=lensAt (L.take k)+lensAt (L.drop k):=by unfold lensAt;rw[<-ZsS,<-Zrf,ZrR]
 omega
theorem ZtX (v:Value) (L:List (Value×List AtP)) (w:World) (hv:RSl w 1 v L.length (L.map Prod.fst)) (hp:∀p∈L,RSl w 4 p.1 p.2.length (p.2.map cellsA).flatten/\∀u∈(p.2.map cellsA).flatten,u.oneCell'=true) (hn:L.length<=1000) (ht:lensAt L<=1000000):
 Calls prog 24 #[v] w λe w'=>∃v',e= .returned v'/\w'.ownsRow w.heap.size 53 4 v' (catAt L).length ((catAt L).map cellsA).flatten/\Ext w w':=by
 obtain ⟨i0,hg,hw,hx,hy⟩:=ZrE Zt3;obtain ⟨A,c,rfl⟩:∃A c,v= .slice A L.length c:=by obtain ⟨_,A,c,e,_⟩:=hv;exact ⟨A,c,e⟩
 have HV:=gd hv;have HP:=gd hp;have HT:=gd (λk=>ZqM (Zt8 L k) ht);clear hp hv ht;go_enter func24,ntmps24;go_wp2
 go_loop [3,11] (λs i=>∃k n:Nat,k<=L.length/\i= .int .i64 k/\s= .int .i64 n/\n<=1000000/\Hid (n=lensAt (L.take k))) (λ_ i=>L.length - (intOf i).toNat)
 case atStart=>exact ⟨0,0,ZqO _,rfl,rfl,ZqO _,gd rfl⟩
 case round=>
  obtain ⟨k,n,hk,rfl,rfl,hi,U⟩:=hrel;by_cases C:k<L.length
  ·have H:(L.map Prod.fst)[k]? =some L[k].1:=(by rw[Zrq,ZqL C];rfl);obtain ⟨ad,e1,Z⟩:=RSl.at1 HV.out k _ H;subst e1;have Q:=ZqQ C;have D:=HP.out _ (Zq2 C);have J:=Zt7 (L.take k) L[k];rw[<-Q,<-U.out] at J;have V:=HT.out (k+1);obtain ⟨pA,pc,F, -, -⟩:=D.1.form;rw[F] at Z;obtain ⟨m,hm⟩:∃m,L[k].2.length=m:=⟨_,rfl⟩;rw[hm] at Z J;have hq:n+m<=1000000:=om;have HS:=gd J;have ha:(0:Int)<=(k:Int):=om;have hh:(k:Int)<(L.length:Int):=om;clear hm F J V Q H D;go_wp2
   go_round
   case rel=>exact ⟨k+1,n+m,C,by go_num,by go_num,hq,gd HS.out.symm⟩
   case measure=>simp[intOf];omega
  ·have S:k=L.length:=om;subst S;have hD:=gd U.out;clear U;have HG:=gd (Zug n w hi)
   go_wp2_with (first|(go_at_call 56;have hz:=HG.out;refine ZqD hz ?_;clear hz;rintro e w1 ⟨gA,gc,rfl,hb,hr⟩))
   go_loopw [6,27] (λu i wr=>∃(k:Nat) (uA:Option Addr) (uc:Nat),u= .slice uA (catAt (L.take k)).length uc/\k<=L.length/\i= .int .i64 k/\wr.ownsRow w.heap.size 53 4 u (catAt (L.take k)).length ((catAt (L.take k)).map cellsA).flatten/\Ext w wr) (λ_ i _=>L.length - (intOf i).toNat)
   case atStart=>exact ⟨0,gA,gc,rfl,ZqO _,rfl,hb,hr⟩
   case round=>
    obtain ⟨k,uA,uc,rfl,hk,rfl,h,R⟩:=hrel;by_cases C:k<L.length
    ·have H:(L.map Prod.fst)[k]? =some L[k].1:=(by rw[Zrq,ZqL C];rfl);obtain ⟨ad,e1,Z⟩:=RSl.at1 (HV.out.ext R) k _ H;subst e1;have Q:=ZqQ C;have D:=HP.out _ (Zq2 C);have J:=Zue (L.take k) L[k];rw[<-Q] at J;have V:=HT.out (k+1);rw[<-Zur,J,ZqG] at V;obtain ⟨pA,pc,F, -, -⟩:=D.1.form;rw[F] at Z;obtain ⟨P,hP⟩:∃P,L[k].2=P:=⟨_,rfl⟩;rw[hP] at Z J V D F;rw[F] at D;obtain ⟨O,hO⟩:∃O,catAt (L.take k)=O:=⟨_,rfl⟩;rw[hO] at J V h;simp only[hO];have HS:=gd J;have X:=gd h;have Y:=gd D;have he:Hid (O.length+P.length<=maxLen):=gd (by unfold maxLen;omega);have hd:Hid ((O.length+P.length)*56<=140737488355328):=gd om;have hws:=R.size;have ha:(0:Int)<=(k:Int):=om;have hh:(k:Int)<(L.length:Int):=om;clear hP F J V Q H D hO h
     go_wp2_with (first|(at_builtin;refine Za _ rfl (.tmp 31) (.tmp 32) _ rfl w.heap.size 53 i0 _ 4 56 underlying22 hg hw hx hy rfl (by decide) _ O.length (O.map cellsA).flatten rfl X.out _ P.length (P.map cellsA).flatten rfl (Y.out.1.ext R) Y.out.2 he.out hd.out hws ?_;intro v3 w3 I hf hC;have hu:Ext w w3:=Ext.app R hf X.out (ZqE _);obtain ⟨hA,hB,hj, -, -⟩:=(RSl.of_own I).2;subst hj))
     go_roundw
     case rel=>have hl:(catAt (L.take (k+1))).length=O.length+P.length:=(by rw[HS.out,ZqG]);refine ⟨k+1,hA,hB,by rw[hl],C,by go_num,?_,hu⟩;rw[hl,HS.out,Zrf,ZsP];exact I
     case measure=>simp[intOf];omega
    ·have S:k=L.length:=om;subst S;have ho:L.take L.length=L:=Zq4 (ZqE _);rw[ho] at h|-;go_wp2;go_ret;exact ⟨_,rfl,h,R⟩
end Go.Proofs.YtmfinhgobjbecaaGreatDoor
