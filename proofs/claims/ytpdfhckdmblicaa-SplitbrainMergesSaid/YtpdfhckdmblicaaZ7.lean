/-
  Part 7 of the texts that the statement stands on.
-/
import Derived.Test.YtpdfhckdmblicaaZ6
set_option linter.all false
namespace Go.Proofs.Ytpdfhckdmblicaa
def Ok1 (P:Program) (f:Nat):VDef→Prop
 |.code fn=>fnOk P f fn=true
 |.ext g=>∀ args rs,g args=some rs→callable P f=true∧CallOk P f args rs
 |.srt h=>callable P f=true∧SortOk P f h
 |.thr h=>(∀ args,h args=some none→callable P f=true∧CallOk P f args [])∧∀ args t n,h args=some (some (t,n))→callable P f=true∧ThrOk P f args t n
 |.dfn fn=>dfnOk P f fn=true∧RescOk P fn.resc fn.t∧∀ d g zs,fn.clos=some (d,g,zs)→ClosOk P g (zs.map (·.2))
theorem ok3:Ok1 Try.prog 3 (.code fn3):=(by kernel_rfl:fnOk Try.prog 3 fn3=true)
theorem ok5:Ok1 Try.prog 5 (.code fn5):=(by kernel_rfl:fnOk Try.prog 5 fn5=true)
theorem ok9:Ok1 Try.prog 9 (.code fn9):=(by kernel_rfl:fnOk Try.prog 9 fn9=true)
theorem ok10:Ok1 Try.prog 10 (.code fn10):=(by kernel_rfl:fnOk Try.prog 10 fn10=true)
theorem ok13:Ok1 Try.prog 13 (.code fn13):=(by kernel_rfl:fnOk Try.prog 13 fn13=true)
theorem ok15:Ok1 Try.prog 15 (.code fn15):=(by kernel_rfl:fnOk Try.prog 15 fn15=true)
theorem ok17:Ok1 Try.prog 17 (.code fn17):=(by kernel_rfl:fnOk Try.prog 17 fn17=true)
theorem ok20:Ok1 Try.prog 20 (.code fn20):=(by kernel_rfl:fnOk Try.prog 20 fn20=true)
theorem ok21:Ok1 Try.prog 21 (.code fn21):=(by kernel_rfl:fnOk Try.prog 21 fn21=true)
theorem ok22:Ok1 Try.prog 22 (.code fn22):=(by kernel_rfl:fnOk Try.prog 22 fn22=true)
theorem ok23:Ok1 Try.prog 23 (.code fn23):=(by kernel_rfl:fnOk Try.prog 23 fn23=true)
theorem ok24:Ok1 Try.prog 24 (.code fn24):=(by kernel_rfl:fnOk Try.prog 24 fn24=true)
theorem ok26:Ok1 Try.prog 26 (.code fn26):=(by kernel_rfl:fnOk Try.prog 26 fn26=true)
theorem ok27:Ok1 Try.prog 27 (.code fn27):=(by kernel_rfl:fnOk Try.prog 27 fn27=true)
theorem ok29:Ok1 Try.prog 29 (.code fn29):=(by kernel_rfl:fnOk Try.prog 29 fn29=true)
theorem ok30:Ok1 Try.prog 30 (.code fn30):=(by kernel_rfl:fnOk Try.prog 30 fn30=true)
theorem ok34:Ok1 Try.prog 34 (.code fn34):=(by kernel_rfl:fnOk Try.prog 34 fn34=true)
theorem ok39:Ok1 Try.prog 39 (.code fn39):=(by kernel_rfl:fnOk Try.prog 39 fn39=true)
theorem ok40:Ok1 Try.prog 40 (.ext ofX):=of_ok
theorem ok41:Ok1 Try.prog 41 (.code fn41):=(by kernel_rfl:fnOk Try.prog 41 fn41=true)
theorem ok42:Ok1 Try.prog 42 (.code fn42):=(by kernel_rfl:fnOk Try.prog 42 fn42=true)
theorem ok48:Ok1 Try.prog 48 (.code fn48):=(by kernel_rfl:fnOk Try.prog 48 fn48=true)
theorem ok49:Ok1 Try.prog 49 (.code fn49):=(by kernel_rfl:fnOk Try.prog 49 fn49=true)
theorem ok50:Ok1 Try.prog 50 (.code fn50):=(by kernel_rfl:fnOk Try.prog 50 fn50=true)
theorem ok53:Ok1 Try.prog 53 (.ext (cloneX 3)):=clone53_ok
theorem ok56:Ok1 Try.prog 56 (.code fn56):=(by kernel_rfl:fnOk Try.prog 56 fn56=true)
theorem ok57:Ok1 Try.prog 57 (.code fn57):=(by kernel_rfl:fnOk Try.prog 57 fn57=true)
theorem ok58:Ok1 Try.prog 58 (.code fn58):=(by kernel_rfl:fnOk Try.prog 58 fn58=true)
theorem ok59:Ok1 Try.prog 59 (.code fn59):=(by kernel_rfl:fnOk Try.prog 59 fn59=true)
theorem ok60:Ok1 Try.prog 60 (.code fn60):=(by kernel_rfl:fnOk Try.prog 60 fn60=true)
theorem ok61:Ok1 Try.prog 61 (.code fn61):=(by kernel_rfl:fnOk Try.prog 61 fn61=true)
theorem ok62:Ok1 Try.prog 62 (.code fn62):=(by kernel_rfl:fnOk Try.prog 62 fn62=true)
theorem ok63:Ok1 Try.prog 63 (.code fn63):=(by kernel_rfl:fnOk Try.prog 63 fn63=true)
theorem ok64:Ok1 Try.prog 64 (.code fn64):=(by kernel_rfl:fnOk Try.prog 64 fn64=true)
theorem ok65:Ok1 Try.prog 65 (.code fn65):=(by kernel_rfl:fnOk Try.prog 65 fn65=true)
theorem ok66:Ok1 Try.prog 66 (.code fn66):=(by kernel_rfl:fnOk Try.prog 66 fn66=true)
theorem ok68:Ok1 Try.prog 68 (.code fn68):=(by kernel_rfl:fnOk Try.prog 68 fn68=true)
theorem ok69:Ok1 Try.prog 69 (.code fn69):=(by kernel_rfl:fnOk Try.prog 69 fn69=true)
theorem ok70:Ok1 Try.prog 70 (.code fn70):=(by kernel_rfl:fnOk Try.prog 70 fn70=true)
theorem ok71:Ok1 Try.prog 71 (.code fn71):=(by kernel_rfl:fnOk Try.prog 71 fn71=true)
theorem ok72:Ok1 Try.prog 72 (.code fn72):=(by kernel_rfl:fnOk Try.prog 72 fn72=true)
theorem ok73:Ok1 Try.prog 73 (.code fn73):=(by kernel_rfl:fnOk Try.prog 73 fn73=true)
theorem ok74:Ok1 Try.prog 74 (.code fn74):=(by kernel_rfl:fnOk Try.prog 74 fn74=true)
theorem ok77:Ok1 Try.prog 77 (.code fn77):=(by kernel_rfl:fnOk Try.prog 77 fn77=true)
theorem ok78:Ok1 Try.prog 78 (.code fn78):=(by kernel_rfl:fnOk Try.prog 78 fn78=true)
theorem ok83:Ok1 Try.prog 83 (.code fn83):=(by kernel_rfl:fnOk Try.prog 83 fn83=true)
theorem ok85:Ok1 Try.prog 85 (.code fn85):=(by kernel_rfl:fnOk Try.prog 85 fn85=true)
theorem ok87:Ok1 Try.prog 87 (.code fn87):=(by kernel_rfl:fnOk Try.prog 87 fn87=true)
theorem ok88:Ok1 Try.prog 88 (.code fn88):=(by kernel_rfl:fnOk Try.prog 88 fn88=true)
theorem ok89:Ok1 Try.prog 89 (.code fn89):=(by kernel_rfl:fnOk Try.prog 89 fn89=true)
theorem ok90:Ok1 Try.prog 90 (.code fn90):=(by kernel_rfl:fnOk Try.prog 90 fn90=true)
theorem ok91:Ok1 Try.prog 91 (.code fn91):=(by kernel_rfl:fnOk Try.prog 91 fn91=true)
theorem ok92:Ok1 Try.prog 92 (.code fn92):=(by kernel_rfl:fnOk Try.prog 92 fn92=true)
theorem ok106:Ok1 Try.prog 106 (.code fn106):=(by kernel_rfl:fnOk Try.prog 106 fn106=true)
theorem ok111:Ok1 Try.prog 111 (.code fn111):=(by kernel_rfl:fnOk Try.prog 111 fn111=true)
theorem ok112:Ok1 Try.prog 112 (.code fn112):=(by kernel_rfl:fnOk Try.prog 112 fn112=true)
theorem ok113:Ok1 Try.prog 113 (.code fn113):=(by kernel_rfl:fnOk Try.prog 113 fn113=true)
theorem ok114:Ok1 Try.prog 114 (.code fn114):=(by kernel_rfl:fnOk Try.prog 114 fn114=true)
theorem ok115:Ok1 Try.prog 115 (.code fn115):=(by kernel_rfl:fnOk Try.prog 115 fn115=true)
theorem ok116:Ok1 Try.prog 116 (.code fn116):=(by kernel_rfl:fnOk Try.prog 116 fn116=true)
theorem ok117:Ok1 Try.prog 117 (.code fn117):=(by kernel_rfl:fnOk Try.prog 117 fn117=true)
theorem tabOk:∀ p∈tab,Ok1 Try.prog p.1 p.2:=by
 unfold tab
 exact List.forall_mem_cons.2 ⟨ok5,List.forall_mem_cons.2 ⟨ok9,List.forall_mem_cons.2 ⟨ok10,List.forall_mem_cons.2 ⟨ok13,List.forall_mem_cons.2 ⟨ok15,List.forall_mem_cons.2 ⟨ok17,List.forall_mem_cons.2 ⟨ok20,List.forall_mem_cons.2 ⟨ok21,List.forall_mem_cons.2 ⟨ok22,List.forall_mem_cons.2 ⟨ok23,List.forall_mem_cons.2 ⟨ok24,List.forall_mem_cons.2 ⟨ok26,List.forall_mem_cons.2 ⟨ok27,List.forall_mem_cons.2 ⟨ok29,List.forall_mem_cons.2 ⟨ok30,List.forall_mem_cons.2 ⟨ok34,List.forall_mem_cons.2 ⟨ok39,List.forall_mem_cons.2 ⟨ok40,List.forall_mem_cons.2 ⟨ok41,List.forall_mem_cons.2 ⟨ok42,List.forall_mem_cons.2 ⟨ok48,List.forall_mem_cons.2 ⟨ok49,List.forall_mem_cons.2 ⟨ok50,List.forall_mem_cons.2 ⟨ok53,List.forall_mem_cons.2 ⟨ok56,List.forall_mem_cons.2 ⟨ok57,List.forall_mem_cons.2 ⟨ok58,List.forall_mem_cons.2 ⟨ok59,List.forall_mem_cons.2 ⟨ok60,List.forall_mem_cons.2 ⟨ok61,List.forall_mem_cons.2 ⟨ok62,List.forall_mem_cons.2 ⟨ok63,List.forall_mem_cons.2 ⟨ok64,List.forall_mem_cons.2 ⟨ok65,List.forall_mem_cons.2 ⟨ok66,List.forall_mem_cons.2 ⟨ok68,List.forall_mem_cons.2 ⟨ok69,List.forall_mem_cons.2 ⟨ok70,List.forall_mem_cons.2 ⟨ok71,List.forall_mem_cons.2 ⟨ok72,List.forall_mem_cons.2 ⟨ok73,List.forall_mem_cons.2 ⟨ok74,List.forall_mem_cons.2 ⟨ok77,List.forall_mem_cons.2 ⟨ok78,List.forall_mem_cons.2 ⟨ok83,List.forall_mem_cons.2 ⟨ok85,List.forall_mem_cons.2 ⟨ok87,List.forall_mem_cons.2 ⟨ok88,List.forall_mem_cons.2 ⟨ok89,List.forall_mem_cons.2 ⟨ok90,List.forall_mem_cons.2 ⟨ok91,List.forall_mem_cons.2 ⟨ok92,List.forall_mem_cons.2 ⟨ok106,List.forall_mem_cons.2 ⟨ok111,List.forall_mem_cons.2 ⟨ok112,List.forall_mem_cons.2 ⟨ok113,List.forall_mem_cons.2 ⟨ok114,List.forall_mem_cons.2 ⟨ok115,List.forall_mem_cons.2 ⟨ok116,List.forall_mem_cons.2 ⟨ok117,fun p hp=>by cases hp⟩⟩⟩⟩⟩⟩⟩⟩⟩⟩⟩⟩⟩⟩⟩⟩⟩⟩⟩⟩⟩⟩⟩⟩⟩⟩⟩⟩⟩⟩⟩⟩⟩⟩⟩⟩⟩⟩⟩⟩⟩⟩⟩⟩⟩⟩⟩⟩⟩⟩⟩⟩⟩⟩⟩⟩⟩⟩⟩⟩
theorem lookup_mem:∀ {l:List (Nat × VDef)} {f:Nat} {d:VDef},l.lookup f=some d→(f,d)∈l
 |(k,v) :: l,f,d,h=>by
  rw [List.lookup_cons] at h
  split at h
  ·rename_i e
   have e:f=k:=by simpa using e
   cases h;subst e;simp
  ·exact List.mem_cons_of_mem _ (lookup_mem h)
theorem envOk:EnvOk Try.prog env:=fun f d h=>by
 have:=tabOk _ (lookup_mem h)
 cases d<;>exact this
end Go.Proofs.Ytpdfhckdmblicaa

namespace Go.Proofs.Ytpdfhckdmblicaa
def Upw (e0 e1:Env) {α:Type} (F:Env→Option α):Prop:=∀ r,F e0=some r→F e1=some r
class UpE (e0 e1:Env):Prop where
 up:∀ f d,e0 f=some d→e1 f=some d
section
variable {α β:Type} {e0 e1:Env} {rec:Rec}
theorem Upw.const (x:Option α):Upw e0 e1 (fun _=>x):=fun _ h=>h
theorem Upw.bind {F:Env→Option α} {G:α→Env→Option β} (hF:Upw e0 e1 F) (hG:∀ a,Upw e0 e1 (G a)):Upw e0 e1 (fun e=>(F e).bind fun a=>G a e):=fun r e=>by
 obtain ⟨a,h1,h2⟩:=Option.bind_eq_some_iff.1 e
 exact Option.bind_eq_some_iff.2 ⟨a,hF a h1,hG a r h2⟩
theorem Upw.map {F:Env→Option α} {g:α→β} (hF:Upw e0 e1 F):Upw e0 e1 (fun e=>(F e).map g):=fun r e=>by
 obtain ⟨a,h1,h2⟩:=Option.map_eq_some_iff.1 e
 exact Option.map_eq_some_iff.2 ⟨a,hF a h1,h2⟩
variable [hU:UpE e0 e1]
include hU
theorem Upw.callRes (f:Nat) (args:List PV):Upw e0 e1 (fun env=>callRes rec env f args):=by
 intro r h
 simp only [Go.Proofs.Ytpdfhckdmblicaa.callRes] at h ⊢
 cases e:e0 f with
 |none=>rw [e] at h;cases h
 |some d=>rw [e] at h;rw [hU.up f d e];exact h
theorem Upw.iterRes (f:Nat) (args:List PV) (s:Option Nat):Upw e0 e1 (fun env=>iterRes rec env f args s):=by
 intro r h
 simp only [Go.Proofs.Ytpdfhckdmblicaa.iterRes] at h ⊢
 cases e:e0 f with
 |none=>rw [e] at h;cases h
 |some d=>rw [e] at h;rw [hU.up f d e];exact h
theorem Upw.callOn (d f:Nat) (args:List Opd) (caps:List AV) (st:St):Upw e0 e1 (fun env=>callOn rec env d f args caps st):=by
 unfold Go.Proofs.Ytpdfhckdmblicaa.callOn
 exact (Upw.const _).bind fun l=>(Upw.const _).bind fun k=>(Upw.callRes f _).bind fun rs=>Upw.const _
theorem Upw.callLin (f:Nat) (x:LArg) (args:List PV):Upw e0 e1 (fun env=>callLin rec env f x args):=by
 intro r h
 simp only [Go.Proofs.Ytpdfhckdmblicaa.callLin] at h ⊢
 cases e:e0 f with
 |none=>rw [e] at h;cases h
 |some d=>rw [e] at h;rw [hU.up f d e];exact h
theorem Upw.callOnL (d f:Nat) (x:Opd) (args:List Opd) (caps:List AV) (st:St):Upw e0 e1 (fun env=>callOnL rec env d f x args caps st):=by
 unfold Go.Proofs.Ytpdfhckdmblicaa.callOnL
 exact (Upw.const _).bind fun l=>(Upw.const _).bind fun k=>(Upw.const _).bind fun q=>(Upw.callLin f _ _).bind fun r=>Upw.const _
theorem Upw.act (o:VOp) (st:St):Upw e0 e1 (fun env=>act rec env o st):=by
 cases o
 case call d f args=>exact Upw.callOn d f args [] st
 case callv d x args =>
  unfold Go.Proofs.Ytpdfhckdmblicaa.act
  simp only
  split
  ·exact Upw.callOn _ _ _ _ _
  ·exact Upw.callOn _ _ _ _ _
  ·exact Upw.const _
 case srt d f x g =>
  intro r h
  simp only [Go.Proofs.Ytpdfhckdmblicaa.act] at h ⊢
  cases e:e0 f with
  |none=>rw [e] at h;cases h
  |some q=>rw [e] at h;rw [hU.up f q e];exact h
 case lin d f x args=>exact Upw.callOnL d f x args [] st
 case linv d g x args =>
  unfold Go.Proofs.Ytpdfhckdmblicaa.act
  simp only
  split
  ·exact Upw.callOnL _ _ _ _ _ _
  ·exact Upw.callOnL _ _ _ _ _ _
  ·exact Upw.const _
 all_goals exact Upw.const _
theorem Upw.calT (f:Nat) (args:List PV):Upw e0 e1 (fun env=>calT rec env f args):=by
 intro r h
 simp only [Go.Proofs.Ytpdfhckdmblicaa.calT] at h ⊢
 cases e:e0 f with
 |none=>rw [e] at h;cases h
 |some d=>rw [e] at h;rw [hU.up f d e];exact h
theorem Upw.op1 (o:VOp) (st:St):Upw e0 e1 (fun env=>op1 rec env o st):=by
 unfold Go.Proofs.Ytpdfhckdmblicaa.op1
 split
 ·exact Upw.act o st
 ·exact Upw.const _
theorem Upw.op (o:VOp) (st:St):Upw e0 e1 (fun env=>op rec env o st):=by
 unfold Go.Proofs.Ytpdfhckdmblicaa.op
 split
 ·split
  ·split
   ·exact Upw.op1 _ _
   ·exact Upw.const _
  ·exact Upw.const _
  ·exact Upw.const _
 ·exact Upw.op1 _ _
theorem Upw.ops:∀ (l:List VOp) (st:St),Upw e0 e1 (fun env=>ops rec env l st)
 |[],st=>Upw.const _
 |o :: l,st=>(Upw.op o st).bind fun st=>Upw.ops l st
theorem Upw.rounds (slots:List AV) (ps:List Nat) (assign body:VCode) (nb:Nat):∀ (xs:List (List PV)) (k:Nat) (st:St),Upw e0 e1 (fun env=>rounds rec slots ps assign body nb k xs st)
 |[],k,st=>by unfold Go.Proofs.Ytpdfhckdmblicaa.rounds;exact Upw.const _
 |x :: xs,k,st=>by
  unfold Go.Proofs.Ytpdfhckdmblicaa.rounds
  refine (Upw.const _).bind fun sl=>(Upw.const _).bind fun a=>?_
  obtain ⟨e,st⟩:=a
  cases e
  case normal =>
   refine (Upw.const _).bind fun a=>?_
   obtain ⟨e,st⟩:=a
   cases e
   case normal =>
    simp only
    split
    ·exact Upw.rounds slots ps assign body nb xs (k+1) _
    ·exact Upw.const _
   all_goals exact Upw.const _
  all_goals exact Upw.const _
theorem Upw.ranged (g:Opd) (ps:List Nat) (assign body:VCode) (st:St):Upw e0 e1 (fun env=>ranged rec env g ps assign body st):=by
 unfold Go.Proofs.Ytpdfhckdmblicaa.ranged
 refine (Upw.const _).bind fun v=>?_
 cases v<;>try exact Upw.const _
 simp only
 refine (Upw.iterRes _ _ _).bind fun xs=>(Upw.rounds _ _ _ _ _ _ _ _).bind fun r=>?_
 obtain ⟨r,st1⟩:=r
 cases r with
 |none=>exact Upw.const _
 |some p =>
  obtain ⟨e,k⟩:=p
  refine (Upw.iterRes _ _ _).bind fun xs=>(Upw.rounds _ _ _ _ _ _ _ _).bind fun r=>?_
  obtain ⟨r,st1⟩:=r
  cases r<;>exact Upw.const _
theorem Upw.altRun (keep:List Nat) (vo:List VOp) (st:St) (x:DAlt):Upw e0 e1 (fun env=>altRun rec env keep vo st x):=by
 unfold Go.Proofs.Ytpdfhckdmblicaa.altRun
 exact (Upw.ops _ _).bind fun s=>Upw.const _
theorem Upw.agree (keep:List Nat) (vo:List VOp) (st s:St):∀ l:List DAlt,Upw e0 e1 (fun env=>agree s (l.map (Go.Proofs.Ytpdfhckdmblicaa.altRun rec env keep vo st)))
 |[]=>Upw.const _
 |x :: xs=>by
  simp only [List.map_cons,Go.Proofs.Ytpdfhckdmblicaa.agree]
  refine (Upw.altRun keep vo st x).bind fun s'=>?_
  split
  ·exact Upw.agree keep vo st s xs
  ·exact Upw.const _
theorem Upw.runAlts (keep:List Nat) (vo:List VOp) (st:St) (l:List DAlt):Upw e0 e1 (fun env=>runAlts rec env keep vo st l):=by
 cases l with
 |nil=>exact Upw.const _
 |cons x xs =>
  simp only [Go.Proofs.Ytpdfhckdmblicaa.runAlts]
  exact (Upw.altRun keep vo st x).bind fun s=>Upw.agree keep vo st s xs
theorem Upw.step (c:VCode) (st:St):Upw e0 e1 (fun env=>step rec env c st):=by
 cases c
 case ops l=>exact (Upw.ops l st).map
 case drw fz _ _ _ l=>exact (Upw.ops l (fz.foldl St.freezeAt st)).map
 case drs fz keep vo alts=>exact (Upw.runAlts keep vo (fz.foldl St.freezeAt st) alts).map
 case lend d ks l =>
  simp only [Go.Proofs.Ytpdfhckdmblicaa.step]
  split
  ·split
   ·exact ((Upw.ops l _).bind fun s=>Upw.const _).map
   ·exact Upw.const _
  ·exact Upw.const _
 case seq a b =>
  refine (Upw.const _).bind fun x=>?_
  obtain ⟨e,st⟩:=x
  cases e
  case normal=>exact Upw.const _
  all_goals exact Upw.const _
 case cond c a b =>
  refine (Upw.const _).bind fun v=>?_
  cases v<;>exact Upw.const _
 case block i a =>
  refine (Upw.const _).bind fun x=>?_
  obtain ⟨e,st⟩:=x
  exact Upw.const _
 case loop=>exact Upw.const _
 case round keep nb a =>
  refine (Upw.const _).bind fun s=>(Upw.const _).bind fun x=>?_
  obtain ⟨e,st⟩:=x
  cases e
  case normal=>exact Upw.const _
  all_goals exact Upw.const _
 case rng g ps assign body=>exact Upw.ranged g ps assign body st
 case clean pre post a =>
  refine (Upw.const _).bind fun s=>(Upw.const _).bind fun x=>?_
  obtain ⟨e,st⟩:=x
  exact Upw.const _
 case dem l d f args =>
  simp only [Go.Proofs.Ytpdfhckdmblicaa.step]
  refine (Upw.ops l st).bind fun st1=>(Upw.const _).bind fun vs=>(Upw.calT f vs).bind fun r=>?_
  cases r with
  |some p=>exact Upw.const _
  |none=>exact (Upw.act _ _).map
 all_goals exact Upw.const _
theorem vm_up:∀ n,RLe (vm e0 n) (vm e1 n)
 |0,c,st,r,h=>by simp [vm] at h
 |n+1,c,st,r,h=>(Good.step (env:=e1) c st).mono _ _ (vm_up n) r (Upw.step c st r h)
theorem up {f:Nat} {args:List PV} {rs:List Res} (h:cal e0 f args=some rs):cal e1 f args=some rs:=by
 obtain ⟨n,hn⟩:=vmCall_of_cal h
 exact cal_of_vmCall (n:=n) ((Good.callRes (env:=e1) f args).mono _ _ (vm_up n) rs (Upw.callRes f args rs hn))
end
end Go.Proofs.Ytpdfhckdmblicaa

namespace Go.Proofs.Ytpdfhckdmblicaa.V
theorem exts_len:∀ (n:Nat) (l:List Nat),l.length=n→(exts l).length≤n:=by
 intro n
 induction n with
 |zero=>intro l hl;rw [List.eq_nil_of_length_eq_zero hl];simp [exts]
 |succ n ih =>
  intro l hl
  rcases snoc_cases l with rfl|⟨p,j,rfl⟩
  ·simp at hl
  ·have h1:=ih p (by simpa using hl)
   rw [exts_snoc]
   rcases snoc_cases (exts p) with e|⟨pre,y,e⟩
   ·rw [e];simp [addAt]
   ·rw [e] at h1 ⊢
    simp only [List.length_append,List.length_singleton] at h1
    rw [addAt_snoc]
    split<;>simp<;>omega
theorem volDiff_len (a b:List Sec):(volDiff a b).length≤a.length:=Nat.le_trans (exts_len _ _ rfl) (difN_len a b a.length)
theorem differ_len {a b:Img} (h:a.length=b.length):(differ a b).length=a.length:=by simp [differ];omega
theorem getD_lt {α:Type} {l:List α} {i:Nat} {d:α} (h:i<l.length):l.getD i d=l[i]:=by simp [List.getD_eq_getElem?_getD,List.getElem?_eq_getElem h]
end Go.Proofs.Ytpdfhckdmblicaa.V

namespace Go.Proofs.Ytpdfhckdmblicaa.V
end Go.Proofs.Ytpdfhckdmblicaa.V

namespace Go.Proofs.Ytpdfhckdmblicaa.V
end Go.Proofs.Ytpdfhckdmblicaa.V

namespace Go.Proofs.Ytpdfhckdmblicaa.V
end Go.Proofs.Ytpdfhckdmblicaa.V

namespace Go.Proofs.Ytpdfhckdmblicaa.V
end Go.Proofs.Ytpdfhckdmblicaa.V

namespace Go.Proofs.Ytpdfhckdmblicaa
def look:List (Nat × AV)→Nat→AV
 |[],_=>.any
 |(j,v) :: l,i=>bcase (Nat.beq i j) v (look l i)
def sl (n:Nat) (l:List (Nat × AV)):List AV:=(List.range n).map (look l)
def mapA (f:AV→AV):List (Nat × AV)→List (Nat × AV)
 |[]=>[]
 |(j,v) :: l=>(j,f v) :: mapA f l
def keepA (l:List (Nat × AV)):List Nat→List (Nat × AV)
 |[]=>[]
 |k :: ks=>(k,look l k) :: keepA l ks
def argsA:Nat→List PV→List (Nat × AV)
 |_,[]=>[]
 |k,v :: l=>(k,.pv v) :: argsA (k+1) l
def lowA (nb:Nat):List (Nat × AV)→Bool
 |[]=>true
 |(_,v) :: l=>AV.low nb v&&lowA nb l
def insA (n:Nat):List Nat→Bool
 |[]=>true
 |k :: ks=>decide (k<n)&&insA n ks
theorem look_hit (i:Nat) (v:AV) (l:List (Nat × AV)):look ((i,v) :: l) i=v:=by
 show bcase (Nat.beq i i) v _=v
 rw [Nat.beq_refl];rfl
theorem look_nil (i:Nat):look [] i=.any:=(rfl)
theorem sl_get {n i:Nat} {l:List (Nat × AV)} (h':i<n):(sl n l).getD i .any=look l i:=by
 simp [sl,List.getD_eq_getElem?_getD,h']
theorem sl_some {n i:Nat} {l:List (Nat × AV)} (h':i<n):(sl n l)[i]?=some (look l i):=by
 simp [sl,h']
theorem look_cons (l:List (Nat × AV)) (i j:Nat) (v:AV):look ((j,v) :: l) i=if i=j then v else look l i:=by
 show bcase (Nat.beq i j) v _=_
 by_cases h:i=j
 ·subst h;rw [Nat.beq_refl,if_pos rfl];rfl
 ·rw [if_neg h]
  have:Nat.beq i j=false:=by
   cases e:Nat.beq i j with
   |false=>rfl
   |true=>exact absurd (Nat.eq_of_beq_eq_true e) h
  rw [this];rfl
theorem sl_set (n i:Nat) (v:AV) (l:List (Nat × AV)):(sl n l).set i v=sl n ((i,v) :: l):=by
 apply List.ext_getElem (by simp [sl])
 intro k h1 h2
 have hk:k<n:=by simpa [sl] using h2
 simp only [sl,List.getElem_set,List.getElem_map,List.getElem_range,look_cons]
 by_cases h:i=k
 ·subst h;simp
 ·rw [if_neg h,if_neg (fun e=>h e.symm)]
theorem look_skip {i j:Nat} {v:AV} {l:List (Nat × AV)} (h:(i==j)=false):look ((j,v) :: l) i=look l i:=by
 rw [look_cons,if_neg (by simpa using h)]
theorem look_mapA (f:AV→AV) (hf:f .any=.any):∀ (l:List (Nat × AV)) (i:Nat),look (mapA f l) i=f (look l i)
 |[],i=>hf.symm
 |(j,v) :: l,i=>by
  show look ((j,f v) :: mapA f l) i=_
  rw [look_cons,look_cons,look_mapA f hf l i]
  split<;>rfl
theorem sl_map {f:AV→AV} (hf:f .any=.any) (n:Nat) (l:List (Nat × AV)):(sl n l).map f=sl n (mapA f l):=by
 unfold sl
 rw [List.map_map]
 apply List.map_congr_left
 intro i _
 exact (look_mapA f hf l i).symm
theorem sl_kill (n d:Nat) (l:List (Nat × AV)):(sl n l).map (AV.kill d)=sl n (mapA (AV.kill d) l):=sl_map rfl n l
theorem sl_killc (n d:Nat) (l:List (Nat × AV)):(sl n l).map (AV.killCell d)=sl n (mapA (AV.killCell d) l):=sl_map rfl n l
theorem sl_froze (n:Nat) (l:List (Nat × AV)):(sl n l).map AV.froze=sl n (mapA AV.froze l):=sl_map rfl n l
theorem mapA_nil (f:AV→AV):mapA f []=[]:=(rfl)
theorem mapA_cons (f:AV→AV) (j:Nat) (v:AV) (l:List (Nat × AV)):mapA f ((j,v) :: l)=(j,f v) :: mapA f l:=(rfl)
theorem keepA_nil (l:List (Nat × AV)):keepA l []=[]:=(rfl)
theorem keepA_cons (l:List (Nat × AV)) (k:Nat) (ks:List Nat):keepA l (k :: ks)=(k,look l k) :: keepA l ks:=(rfl)
theorem lowA_nil (nb:Nat):lowA nb []=true:=(rfl)
theorem lowA_cons (nb k:Nat) (v:AV) (l:List (Nat × AV)):lowA nb ((k,v) :: l)=(AV.low nb v&&lowA nb l):=(rfl)
theorem insA_nil (n:Nat):insA n []=true:=(rfl)
theorem insA_cons (n k:Nat) (l:List Nat):insA n (k :: l)=(decide (k<n)&&insA n l):=(rfl)
theorem argsA_nil (k:Nat):argsA k []=[]:=(rfl)
theorem argsA_cons (k:Nat) (v:PV) (l:List PV):argsA k (v :: l)=(k,.pv v) :: argsA (k+1) l:=(rfl)
theorem look_keepA (l:List (Nat × AV)):∀ (ks:List Nat) (i:Nat),look (keepA l ks) i=if ks.contains i then look l i else .any
 |[],i=>rfl
 |k :: ks,i=>by
  rw [keepA_cons,look_cons,look_keepA l ks i,List.contains_cons]
  by_cases h:i=k
  ·subst h;simp
  ·have:(i==k)=false:=by simpa using h
   rw [if_neg h,this,Bool.false_or]
theorem lowA_iff (nb n:Nat) (l:List (Nat × AV)):∀ ks:List Nat,insA n ks=true→(lowA nb (keepA l ks)=true ↔ ∀ k∈ks,(look l k).low nb=true)
 |[],_=>by simp [keepA,lowA]
 |k :: ks,h=>by
  rw [insA_cons,Bool.and_eq_true] at h
  rw [keepA_cons,lowA_cons,Bool.and_eq_true,lowA_iff nb n l ks h.2]
  simp
theorem head_sl {n nb:Nat} {l:List (Nat × AV)} {keep:List Nat} {bx:List Box} {ys:List (List PV)} {sp:Option (Option Nat)} (h:insA n keep=true) (hb:nb≤bx.length) (hl:lowA nb (keepA l keep)=true) :
  St.head ⟨sl n l,bx,ys,sp⟩ keep nb=some ⟨sl n (keepA l keep),bx.take nb,ys,sp⟩:=by
 have e:((sl n l).zipIdx.map fun (v,i)=>if keep.contains i then v else AV.any)=sl n (keepA l keep):=by
  apply List.ext_getElem (by simp [sl])
  intro i h1 h2
  simp only [sl,List.getElem_map,List.getElem_zipIdx,List.getElem_range,look_keepA,Nat.zero_add]
 unfold St.head
 simp only
 rw [e,if_pos]
 rw [Bool.and_eq_true,decide_eq_true_eq]
 refine ⟨?_,hb⟩
 rw [List.all_eq_true]
 intro v hv
 unfold sl at hv
 obtain ⟨i,hi,rfl⟩:=List.mem_map.1 hv
 rw [look_keepA]
 split
 ·rename_i hc
  exact (lowA_iff nb n l keep h).1 hl i (by simpa using hc)
 ·rfl
theorem clean_sl {n nb:Nat} {e:Ex} {l:List (Nat × AV)} {keep:List Nat} {bx:List Box} {ys:List (List PV)} {sp:Option (Option Nat)} (h:insA n keep=true) (hb:nb≤bx.length) (hl:lowA nb (keepA l keep)=true) :
  cleanEnd keep nb (e,⟨sl n l,bx,ys,sp⟩)=some (e,⟨sl n (keepA l keep),bx.take nb,ys,sp⟩):=by
 unfold cleanEnd
 simp only
 rw [head_sl h hb hl]
 rfl
theorem look_argsA:∀ (l:List PV) (k i:Nat),look (argsA k l) i=if k≤i then ((l[i - k]?).map AV.pv).getD .any else .any:=by
 intro l
 induction l with
 |nil=>intro k i;simp [argsA,look]
 |cons v l ih =>
  intro k i
  rw [argsA_cons,look_cons,ih]
  by_cases h1:i=k
  ·subst h1;simp
  ·rw [if_neg h1]
   by_cases h2:k≤i
   ·rw [if_pos (by omega),if_pos h2,show i - k=(i - (k+1))+1 by omega,List.getElem?_cons_succ]
   ·rw [if_neg (by omega),if_neg h2]
theorem startL_sl {n:Nat} {x:LArg} {args:List PV} (hn:args.length+1≤n):startL n x args=⟨sl n ((0,x.av) :: argsA 1 args),x.boxes,[],none⟩:=by
 unfold startL
 congr 1
 apply List.ext_getElem (by simp [sl];omega)
 intro i h1 h2
 simp only [sl,List.getElem_map,List.getElem_range,look_cons,look_argsA]
 cases i with
 |zero=>simp
 |succ i =>
  rw [List.getElem_cons_succ,if_neg (by omega),if_pos (by omega),show i+1 - 1=i by omega]
  by_cases hi:i<args.length
  ·rw [List.getElem_append_left (by simpa using hi)]
   simp [hi]
  ·rw [List.getElem_append_right (by simp;omega)]
   simp [hi]
theorem start_sl {n:Nat} {args:List PV} (hn:args.length≤n):start n args=⟨sl n (argsA 0 args),[],[],none⟩:=by
 have key:=look_argsA
 unfold start
 congr 1
 apply List.ext_getElem (by simp [sl];omega)
 intro i h1 h2
 simp only [sl,List.getElem_map,List.getElem_range,key,Nat.zero_le,if_true,Nat.sub_zero]
 by_cases hi:i<args.length
 ·rw [List.getElem_append_left (by simpa using hi)]
  simp [hi]
 ·rw [List.getElem_append_right (by simp;omega)]
  simp [hi]
theorem low_pv (nb:Nat) (v:PV):AV.low nb (.pv v)=true:=(rfl)
theorem low_any (nb:Nat):AV.low nb .any=true:=(rfl)
theorem low_yld (nb:Nat):AV.low nb .yld=true:=(rfl)
theorem low_row (nb sz:Nat) (es:List PV):AV.low nb (.row sz es)=true:=(rfl)
theorem low_pbox (nb o j:Nat):AV.low nb (.pbox o j)=decide (o<nb):=(rfl)
theorem low_refs (nb t off len:Nat):AV.low nb (.ref (.slot t) off len)=true:=(rfl)
theorem low_refc (nb o j off len:Nat):AV.low nb (.ref (.cell o j) off len)=decide (o<nb):=(rfl)
theorem low_pels (nb t i j:Nat):AV.low nb (.pel (.slot t) i j)=true:=(rfl)
theorem low_pelc (nb o q i j:Nat):AV.low nb (.pel (.cell o q) i j)=decide (o<nb):=(rfl)
theorem low_fn (nb f:Nat) (caps:List AV):AV.low nb (.fn f caps)=caps.all fun c=>match c with
  |.pv _=>true
  |.pbox o _=>o<nb
  |_=>false:=(rfl)
def slAll:=And.intro @look_hit (And.intro @look_skip (And.intro @look_nil (And.intro @sl_get (And.intro @sl_some (And.intro @sl_set (And.intro @sl_kill (And.intro @sl_killc (And.intro @sl_froze (And.intro @mapA_nil (And.intro @mapA_cons (And.intro @keepA_nil (And.intro @keepA_cons (And.intro @lowA_nil (And.intro @lowA_cons (And.intro @insA_nil (And.intro @insA_cons (And.intro @argsA_nil (And.intro @argsA_cons (And.intro @head_sl (And.intro @clean_sl (And.intro @start_sl (And.intro @startL_sl (And.intro @low_pv (And.intro @low_any (And.intro @low_yld (And.intro @low_row (And.intro @low_pbox (And.intro @low_refs (And.intro @low_refc (And.intro @low_pels (And.intro @low_pelc (@low_fn))))))))))))))))))))))))))))))))
end Go.Proofs.Ytpdfhckdmblicaa

namespace Go.Proofs.Ytpdfhckdmblicaa.V
end Go.Proofs.Ytpdfhckdmblicaa.V

namespace Go.Proofs.Ytpdfhckdmblicaa.V
end Go.Proofs.Ytpdfhckdmblicaa.V

namespace Go.Proofs.Ytpdfhckdmblicaa.V
end Go.Proofs.Ytpdfhckdmblicaa.V

namespace Go.Proofs.Ytpdfhckdmblicaa.V
end Go.Proofs.Ytpdfhckdmblicaa.V

namespace Go.Proofs.Ytpdfhckdmblicaa.V
--+
theorem eqCells_ext (x y:Exn):eqCells [.int .i64 x.start,.int .i64 x.count] [.int .i64 y.start,.int .i64 y.count]=some (decide (x=y)):=by
 simp only [eqCells,if_true,Option.map_some]
 congr 1
 obtain ⟨a,b⟩:=x
 obtain ⟨c,d⟩:=y
 by_cases h1:a=c<;>by_cases h2:b=d<;>simp [h1,h2]
--+
theorem loop65 {a b:List Exn} (hl:a.length≤lim) (hab:a.length=b.length) {st:St} (h:st.head [0,1,5] st.boxes.length=some ⟨[.pv (.list 2 (a.map eExt)),.pv (.list 2 (b.map eExt)),.any,.any,.any,.pv (.int .i64 (0:Nat)),.any,.any,.any,.any,.any,.any,.any,.any,.any,.any,.any,.any,.any,.any,.any,.any,.any,.any,.any,.any],[],[],none⟩) :
  den env fn65_l1 st=if a=b then some (.normal,⟨[.any,.any,.any,.any,.any,.any,.any,.any,.any,.any,.any,.any,.any,.any,.any,.any,.any,.any,.any,.any,.any,.any,.any,.any,.any,.any],[],[],none⟩) else some (.ret,⟨[.any,.any,.any,.any,.pv (.bool false),.any,.any,.any,.any,.any,.any,.any,.any,.any,.any,.any,.any,.any,.any,.any,.any,.any,.any,.any,.any,.any],[],[],none⟩):=by
 unfold fn65_l1
 rw [ clean_up (env:=env) (a.length) (fun i=>⟨[.pv (.list 2 (a.map eExt)),.pv (.list 2 (b.map eExt)),.any,.any,.any,.pv (.int .i64 i),.any,.any,.any,.any,.any,.any,.any,.any,.any,.any,.any,.any,.any,.any,.any,.any,.any,.any,.any,.any],[],[],none⟩) (fun i=>if a.drop i=b.drop i then some (.normal,⟨[.any,.any,.any,.any,.any,.any,.any,.any,.any,.any,.any,.any,.any,.any,.any,.any,.any,.any,.any,.any,.any,.any,.any,.any,.any,.any],[],[],none⟩) else some (.ret,⟨[.any,.any,.any,.any,.pv (.bool false),.any,.any,.any,.any,.any,.any,.any,.any,.any,.any,.any,.any,.any,.any,.any,.any,.any,.any,.any,.any,.any],[],[],none⟩)) h (fun _=>rfl) (fun _=>rfl) ?_ ?_]
 ·first|rfl|simp only [List.drop_zero,List.take_zero,List.map_nil,Nat.zero_add,List.nil_append,List.foldl_nil]
 ·intro i rb hi ih
  have hi1:=i64_next hi hl
  have hj:i<b.length:=by omega
  have F1:((i:Int)<(a.length:Int))=True:=eq_true (by omega)
  have P:∀ x:Exn,part [PV.int .i64 x.start,.int .i64 x.count] 0 (some 2)=some (.agg [.int .i64 x.start,.int .i64 x.count]):=fun x=>rfl
  simp only [fn65_b0,F1,eExt,index_nat hi,index_nat hj,List.getElem?_map,List.getElem?_eq_getElem hi,List.getElem?_eq_getElem hj,P,eqCells_ext,List.length_cons,List.length_nil,memAll,vAll,reduceCtorEq,Nat.reduceEqDiff,Nat.reduceAdd,Nat.reduceLT,Nat.reduceLeDiff,Nat.beq]
  rw [List.drop_eq_getElem_cons hi,List.drop_eq_getElem_cons hj]
  (try simp only [bcase_bind,bcase_map,tail_bcase]);refine bcase_split (fun hb=>?_) (fun hb=>?_)<;>try simp only [hb, memAll,vAll,reduceCtorEq,Nat.reduceEqDiff,Nat.reduceAdd,Nat.reduceLT,Nat.reduceLeDiff,Nat.beq]
  ·rw [ih _ (by simp only [hi1];rfl)]
   simp only [decide_eq_true_eq] at hb
   simp only [hb,List.cons.injEq,true_and]
  ·simp only [decide_eq_false_iff_not] at hb
   simp only [hb,List.cons.injEq,false_and,if_false]
   rfl
 ·intro rb
  simp only [fn65_b0,Int.lt_irrefl, memAll,vAll,reduceCtorEq,Nat.reduceEqDiff,Nat.reduceAdd,Nat.reduceLT,Nat.reduceLeDiff,Nat.beq]
  rw [List.drop_length,hab,List.drop_length,if_pos rfl]
  rfl
theorem cal65 {a b:List Exn} (hl:a.length≤lim):cal env 65 [.list 2 (a.map eExt),.list 2 (b.map eExt)]=some [(.bool (decide (a=b)),false)]:=by
 rw [cal_code env65 rfl];simp only [fn65];simp only [start,z_map_cons,z_map_nil,z_len_cons,z_len_nil,z_repl_zero,z_repl_succ,z_cons_app,z_nil_app,Nat.reduceAdd,Nat.reduceSub]
 simp only [ memAll,vAll,reduceCtorEq,Nat.reduceEqDiff,Nat.reduceAdd,Nat.reduceLT,Nat.reduceLeDiff,Nat.beq]
 (try simp only [bcase_bind,bcase_map,tail_bcase]);refine bcase_split (fun hb=>?_) (fun hb=>?_)<;>try simp only [hb, memAll,vAll,reduceCtorEq,Nat.reduceEqDiff,Nat.reduceAdd,Nat.reduceLT,Nat.reduceLeDiff,Nat.beq]
 ·have hab:a.length=b.length:=by simp at hb;omega
  rw [loop65 hl hab]
  rotate_left
  ·rfl
  ·by_cases e:a=b<;>simp only [e,vAll,reduceCtorEq,Nat.reduceEqDiff,Nat.reduceAdd,Nat.reduceLT,Nat.reduceLeDiff,Nat.beq]
 ·have:a≠b:=fun e=>by subst e;simp at hb
  simp only [this,vAll,reduceCtorEq,Nat.reduceEqDiff,Nat.reduceAdd,Nat.reduceLT,Nat.reduceLeDiff,Nat.beq]
end Go.Proofs.Ytpdfhckdmblicaa.V

namespace Go.Proofs.Ytpdfhckdmblicaa.V
theorem loop26 {a b:List (List Exn)} (hl:a.length≤lim) (hr:∀ v∈a,v.length≤lim) (hab:a.length=b.length) {st:St} (h:st.head [0,1,5] st.boxes.length=some ⟨[.pv (.list 1 (a.map eExts)),.pv (.list 1 (b.map eExts)),.any,.any,.any,.pv (.int .i64 (0:Nat)),.any,.any,.any,.any,.any,.any,.any,.any,.any,.any,.any,.any,.any,.any,.any,.any,.any,.any,.any,.any,.any],[],[],none⟩) :
  den env fn26_l1 st=if a=b then some (.normal,⟨[.any,.any,.any,.any,.any,.any,.any,.any,.any,.any,.any,.any,.any,.any,.any,.any,.any,.any,.any,.any,.any,.any,.any,.any,.any,.any,.any],[],[],none⟩) else some (.ret,⟨[.any,.any,.any,.any,.pv (.bool false),.any,.any,.any,.any,.any,.any,.any,.any,.any,.any,.any,.any,.any,.any,.any,.any,.any,.any,.any,.any,.any,.any],[],[],none⟩):=by
 unfold fn26_l1
 rw [ clean_up (env:=env) (a.length) (fun i=>⟨[.pv (.list 1 (a.map eExts)),.pv (.list 1 (b.map eExts)),.any,.any,.any,.pv (.int .i64 i),.any,.any,.any,.any,.any,.any,.any,.any,.any,.any,.any,.any,.any,.any,.any,.any,.any,.any,.any,.any,.any],[],[],none⟩) (fun i=>if a.drop i=b.drop i then some (.normal,⟨[.any,.any,.any,.any,.any,.any,.any,.any,.any,.any,.any,.any,.any,.any,.any,.any,.any,.any,.any,.any,.any,.any,.any,.any,.any,.any,.any],[],[],none⟩) else some (.ret,⟨[.any,.any,.any,.any,.pv (.bool false),.any,.any,.any,.any,.any,.any,.any,.any,.any,.any,.any,.any,.any,.any,.any,.any,.any,.any,.any,.any,.any,.any],[],[],none⟩)) h (fun _=>rfl) (fun _=>rfl) ?_ ?_]
 ·first|rfl|simp only [List.drop_zero,List.take_zero,List.map_nil,Nat.zero_add,List.nil_append,List.foldl_nil]
 ·intro i rb hi ih
  have hi1:=i64_next hi hl
  have hj:i<b.length:=by omega
  have F1:((i:Int)<(a.length:Int))=True:=eq_true (by omega)
  have e1:=cal65 (b:=b[i]) (hr _ (List.getElem_mem hi))
  simp only [fn26_b0,F1,e1,eExts,index_nat hi,index_nat hj,List.getElem?_map,List.getElem?_eq_getElem hi,List.getElem?_eq_getElem hj,memAll,vAll,reduceCtorEq,Nat.reduceEqDiff,Nat.reduceAdd,Nat.reduceLT,Nat.reduceLeDiff,Nat.beq]
  rw [List.drop_eq_getElem_cons hi,List.drop_eq_getElem_cons hj]
  (try simp only [bcase_bind,bcase_map,tail_bcase]);refine bcase_split (fun hb=>?_) (fun hb=>?_)<;>try simp only [hb, memAll,vAll,reduceCtorEq,Nat.reduceEqDiff,Nat.reduceAdd,Nat.reduceLT,Nat.reduceLeDiff,Nat.beq]
  ·rw [ih _ (by simp only [hi1];rfl)]
   simp only [decide_eq_true_eq] at hb
   simp only [hb,List.cons.injEq,true_and]
  ·simp only [decide_eq_false_iff_not] at hb
   simp only [hb,List.cons.injEq,false_and,if_false]
   rfl
 ·intro rb
  simp only [fn26_b0,Int.lt_irrefl, memAll,vAll,reduceCtorEq,Nat.reduceEqDiff,Nat.reduceAdd,Nat.reduceLT,Nat.reduceLeDiff,Nat.beq]
  rw [List.drop_length,hab,List.drop_length,if_pos rfl]
  rfl
theorem cal26 {a b:List (List Exn)} (hl:a.length≤lim) (hr:∀ v∈a,v.length≤lim):cal env 26 [.list 1 (a.map eExts),.list 1 (b.map eExts)]=some [(.bool (decide (a=b)),false)]:=by
 rw [cal_code env26 rfl];simp only [fn26];simp only [start,z_map_cons,z_map_nil,z_len_cons,z_len_nil,z_repl_zero,z_repl_succ,z_cons_app,z_nil_app,Nat.reduceAdd,Nat.reduceSub]
 simp only [ memAll,vAll,reduceCtorEq,Nat.reduceEqDiff,Nat.reduceAdd,Nat.reduceLT,Nat.reduceLeDiff,Nat.beq]
 (try simp only [bcase_bind,bcase_map,tail_bcase]);refine bcase_split (fun hb=>?_) (fun hb=>?_)<;>try simp only [hb, memAll,vAll,reduceCtorEq,Nat.reduceEqDiff,Nat.reduceAdd,Nat.reduceLT,Nat.reduceLeDiff,Nat.beq]
 ·have hab:a.length=b.length:=by simp at hb;omega
  rw [loop26 hl hr hab]
  rotate_left
  ·rfl
  ·by_cases e:a=b<;>simp only [e,vAll,reduceCtorEq,Nat.reduceEqDiff,Nat.reduceAdd,Nat.reduceLT,Nat.reduceLeDiff,Nat.beq]
 ·have:a≠b:=fun e=>by subst e;simp at hb
  simp only [this,vAll,reduceCtorEq,Nat.reduceEqDiff,Nat.reduceAdd,Nat.reduceLT,Nat.reduceLeDiff,Nat.beq]
theorem differ_length {a b:Img} (h:imSizes a=imSizes b):(differ a b).length=a.length:=by
 have:=(sizes_inj h).1
 simp [differ];omega
end Go.Proofs.Ytpdfhckdmblicaa.V

namespace Go.Proofs.Ytpdfhckdmblicaa.V
def imgsR (a b z:Img):Int:=if imCheck a≠0 then imCheck a else if imCheck b≠0 then imCheck b else if imCheck z≠0 then imCheck z else if a.length≠z.length∨b.length≠z.length then 22 else if (List.range z.length).all (fun i=>decide ((a.getD i []).length=(z.getD i []).length∧(b.getD i []).length=(z.getD i []).length)) then 0 else 22
theorem imgsR_eq (a b z:Img):imgsR a b z=imgsErr a b z:=by
 unfold imgsR imgsErr
 split
 ·rfl
 split
 ·rfl
 split
 ·rfl
 have key:∀ x:Img,imSizes x=imSizes z ↔ x.length=z.length∧∀ i,i<z.length→(x.getD i []).length=(z.getD i []).length:=by
  intro x
  constructor
  ·intro h
   obtain ⟨l1,s1⟩:=sizes_inj h
   refine ⟨l1,fun i hi=>?_⟩
   rw [getD_lt (show i<x.length by omega),getD_lt hi]
   exact s1 i _ _
  ·rintro ⟨l1,s1⟩
   refine sizes_of l1 fun i h1 h2=>?_
   have:=s1 i h2
   rw [getD_lt h1,getD_lt h2] at this
   exact this
 have hiff:(imSizes b=imSizes a∧imSizes z=imSizes a) ↔ (imSizes a=imSizes z∧imSizes b=imSizes z):=by
  constructor
  ·rintro ⟨h1,h2⟩;exact ⟨h2.symm,h1.trans h2.symm⟩
  ·rintro ⟨h1,h2⟩;exact ⟨h2.trans h1.symm,h1.symm⟩
 by_cases c:a.length≠z.length∨b.length≠z.length
 ·rw [if_pos c,if_neg]
  rw [hiff,key,key]
  rintro ⟨⟨h1,-⟩,h2,-⟩
  rcases c with c|c
  ·exact c h1
  ·exact c h2
 ·rw [if_neg c]
  have c':a.length=z.length∧b.length=z.length:=by omega
  by_cases d:∀ i,i<z.length→(a.getD i []).length=(z.getD i []).length∧(b.getD i []).length=(z.getD i []).length
  ·rw [if_pos,if_pos]
   ·rw [hiff,key,key]
    exact ⟨⟨c'.1,fun i hi=>(d i hi).1⟩,c'.2,fun i hi=>(d i hi).2⟩
   ·rw [List.all_eq_true]
    intro i hi
    exact decide_eq_true (d i (List.mem_range.1 hi))
  ·rw [if_neg,if_neg]
   ·rw [hiff,key,key]
    rintro ⟨⟨-,h1⟩,-,h2⟩
    exact d fun i hi=>⟨h1 i hi,h2 i hi⟩
   ·intro h
    rw [List.all_eq_true] at h
    exact d fun i hi=>of_decide_eq_true (h i (List.mem_range.2 hi))
set_option maxRecDepth 20000 in
theorem loop61 {a b z:Img} (hl:z.length≤lim) (la:a.length=z.length) (lb:b.length=z.length) {st:St} (h:st.head [0,1,2,10] st.boxes.length=some ⟨sl 68 [(0,.pv (.list 1 (a.map eSecs))),(1,.pv (.list 1 (b.map eSecs))),(2,.pv (.list 1 (z.map eSecs))),(10,.pv (.int .i64 (0:Nat)))],[],[],none⟩) :
  den env fn61_l1 st=if ((List.range z.length).drop ((0:Nat))).all (fun i=>decide ((a.getD i []).length=(z.getD i []).length∧(b.getD i []).length=(z.getD i []).length)) then some (.normal,⟨sl 68 [(6,.any)],[],[],none⟩) else some (.ret,⟨sl 68 [(6,.pv (.int .i64 22))],[],[],none⟩):=by
 unfold fn61_l1
 refine clean_up (env:=env) (z.length) (fun i=>⟨sl 68 [(0,.pv (.list 1 (a.map eSecs))),(1,.pv (.list 1 (b.map eSecs))),(2,.pv (.list 1 (z.map eSecs))),(10,.pv (.int .i64 i))],[],[],none⟩) (fun i=>if ((List.range z.length).drop (i)).all (fun i=>decide ((a.getD i []).length=(z.getD i []).length∧(b.getD i []).length=(z.getD i []).length)) then some (.normal,⟨sl 68 [(6,.any)],[],[],none⟩) else some (.ret,⟨sl 68 [(6,.pv (.int .i64 22))],[],[],none⟩)) h (fun _=>rfl) (fun _=>by simp only [slAll,slsAll,Nat.reduceMul,Nat.reduceBEq,Nat.reduceLT,Nat.reduceLeDiff,Nat.reduceAdd,decide_true,Bool.and_self,Bool.true_and]) ?_ ?_
 ·intro i rb hi ih
  have hi1:=i64_next hi hl
  have F1:((i:Int)<(z.length:Int))=True:=eq_true (by omega)
  have ia:i<a.length:=by omega
  have ib:i<b.length:=by omega
  have gx:=List.getElem?_eq_getElem ia
  have gy:=List.getElem?_eq_getElem ib
  have gw:=List.getElem?_eq_getElem hi
  have hir:i<(List.range z.length).length:=by rw [List.length_range];exact hi
  rw [List.drop_eq_getElem_cons hir,List.all_cons,List.getElem_range,getD_lt ia,getD_lt ib,getD_lt hi]
  generalize a[i]=x at *
  generalize b[i]=y at *
  generalize z[i]=w at *
  by_cases c1:x.length=w.length
  ·have G1:((x.length:Int) != (w.length:Int))=false:=by simp [c1]
   by_cases c2:y.length=w.length
   ·have G2:((y.length:Int) != (w.length:Int))=false:=by simp [c2]
    simp only [fn61_b0,F1,G1,G2,gx,gy,gw,eSecs,index_nat hi,index_nat ia,index_nat ib,List.getElem?_map,Option.map_some,List.length_map,slAll,slsAll,Nat.reduceMul,Nat.reduceBEq,Nat.reduceLT,Nat.reduceLeDiff,memAll,vAll,reduceCtorEq,Nat.reduceEqDiff,Nat.reduceAdd,Nat.reduceLT,Nat.reduceLeDiff,Nat.beq]
    rw [ih _ (by simp only [hi1,slAll,slsAll,Nat.reduceMul,Nat.reduceBEq,Nat.reduceLT,Nat.reduceLeDiff,memAll,vAll,reduceCtorEq,Nat.reduceEqDiff,Nat.reduceAdd,Nat.reduceLT,Nat.reduceLeDiff,Nat.beq]<;>rfl)]
    simp only [c1,c2,and_self,decide_true,Bool.true_and]
   ·have G2:((y.length:Int) != (w.length:Int))=true:=by simp;omega
    simp only [fn61_b0,F1,G1,G2,gx,gy,gw,eSecs,index_nat hi,index_nat ia,index_nat ib,List.getElem?_map,Option.map_some,List.length_map,slAll,slsAll,Nat.reduceMul,Nat.reduceBEq,Nat.reduceLT,Nat.reduceLeDiff,memAll,vAll,reduceCtorEq,Nat.reduceEqDiff,Nat.reduceAdd,Nat.reduceLT,Nat.reduceLeDiff,Nat.beq]
    simp only [c1,c2,and_false,decide_false,Bool.false_and,Bool.false_eq_true,if_false]
  ·have G1:((x.length:Int) != (w.length:Int))=true:=by simp;omega
   simp only [fn61_b0,F1,G1,gx,gy,gw,eSecs,index_nat hi,index_nat ia,index_nat ib,List.getElem?_map,Option.map_some,List.length_map,slAll,slsAll,Nat.reduceMul,Nat.reduceBEq,Nat.reduceLT,Nat.reduceLeDiff,memAll,vAll,reduceCtorEq,Nat.reduceEqDiff,Nat.reduceAdd,Nat.reduceLT,Nat.reduceLeDiff,Nat.beq]
   simp only [c1,false_and,decide_false,Bool.false_and,Bool.false_eq_true,if_false]
 ·intro rb
  simp only [fn61_b0,Int.lt_irrefl,List.length_map,slAll,slsAll,Nat.reduceMul,Nat.reduceBEq,Nat.reduceLT,Nat.reduceLeDiff,memAll,vAll,reduceCtorEq,Nat.reduceEqDiff,Nat.reduceAdd,Nat.reduceLT,Nat.reduceLeDiff,Nat.beq]
  rw [List.drop_eq_nil_of_le (by simp)]
  rfl
theorem cal61 {a b z:Img} (ha:a.length≤lim) (hb:b.length≤lim) (hz:z.length≤lim):cal env 61 [.list 1 (a.map eSecs),.list 1 (b.map eSecs),.list 1 (z.map eSecs)]=some [(.int .i64 (imgsErr a b z),false)]:=by
 rw [← imgsR_eq]
 have e1:=cal90 ha
 have e2:=cal90 hb
 have e3:=cal90 hz
 unfold imgsR
 by_cases c1:imCheck a=0
 rotate_left
 ·have G1:(imCheck a != 0)=true:=by simpa using c1
  rw [if_pos c1]
  rw [cal_code env61 rfl];simp only [fn61,slAll,Nat.reduceBEq,Nat.reduceLeDiff,Nat.reduceAdd,List.length_cons,List.length_nil]
  simp only [e1,G1,slAll,slsAll,Nat.reduceMul,Nat.reduceBEq,Nat.reduceLT,Nat.reduceLeDiff,memAll,vAll,reduceCtorEq,Nat.reduceEqDiff,Nat.reduceAdd,Nat.reduceLT,Nat.reduceLeDiff,Nat.beq]
 have G1:(imCheck a != 0)=false:=by simpa using c1
 rw [if_neg (by simpa using c1)]
 by_cases c2:imCheck b=0
 rotate_left
 ·have G2:(imCheck b != 0)=true:=by simpa using c2
  rw [if_pos c2]
  rw [cal_code env61 rfl];simp only [fn61,slAll,Nat.reduceBEq,Nat.reduceLeDiff,Nat.reduceAdd,List.length_cons,List.length_nil]
  simp only [e1,e2,G1,G2,slAll,slsAll,Nat.reduceMul,Nat.reduceBEq,Nat.reduceLT,Nat.reduceLeDiff,memAll,vAll,reduceCtorEq,Nat.reduceEqDiff,Nat.reduceAdd,Nat.reduceLT,Nat.reduceLeDiff,Nat.beq]
 have G2:(imCheck b != 0)=false:=by simpa using c2
 rw [if_neg (by simpa using c2)]
 by_cases c3:imCheck z=0
 rotate_left
 ·have G3:(imCheck z != 0)=true:=by simpa using c3
  rw [if_pos c3]
  rw [cal_code env61 rfl];simp only [fn61,slAll,Nat.reduceBEq,Nat.reduceLeDiff,Nat.reduceAdd,List.length_cons,List.length_nil]
  simp only [e1,e2,e3,G1,G2,G3,slAll,slsAll,Nat.reduceMul,Nat.reduceBEq,Nat.reduceLT,Nat.reduceLeDiff,memAll,vAll,reduceCtorEq,Nat.reduceEqDiff,Nat.reduceAdd,Nat.reduceLT,Nat.reduceLeDiff,Nat.beq]
 have G3:(imCheck z != 0)=false:=by simpa using c3
 rw [if_neg (by simpa using c3)]
 by_cases d1:a.length=z.length
 rotate_left
 ·have H1:((a.length:Int) != (z.length:Int))=true:=by simp;omega
  rw [if_pos (.inl d1)]
  rw [cal_code env61 rfl];simp only [fn61,slAll,Nat.reduceBEq,Nat.reduceLeDiff,Nat.reduceAdd,List.length_cons,List.length_nil]
  simp only [e1,e2,e3,G1,G2,G3,H1,List.length_map,slAll,slsAll,Nat.reduceMul,Nat.reduceBEq,Nat.reduceLT,Nat.reduceLeDiff,memAll,vAll,reduceCtorEq,Nat.reduceEqDiff,Nat.reduceAdd,Nat.reduceLT,Nat.reduceLeDiff,Nat.beq]
 have H1:((a.length:Int) != (z.length:Int))=false:=by simp;omega
 by_cases d2:b.length=z.length
 rotate_left
 ·have H2:((b.length:Int) != (z.length:Int))=true:=by simp;omega
  rw [if_pos (.inr d2)]
  rw [cal_code env61 rfl];simp only [fn61,slAll,Nat.reduceBEq,Nat.reduceLeDiff,Nat.reduceAdd,List.length_cons,List.length_nil]
  simp only [e1,e2,e3,G1,G2,G3,H1,H2,List.length_map,slAll,slsAll,Nat.reduceMul,Nat.reduceBEq,Nat.reduceLT,Nat.reduceLeDiff,memAll,vAll,reduceCtorEq,Nat.reduceEqDiff,Nat.reduceAdd,Nat.reduceLT,Nat.reduceLeDiff,Nat.beq]
 have H2:((b.length:Int) != (z.length:Int))=false:=by simp;omega
 rw [if_neg (by omega)]
 rw [cal_code env61 rfl];simp only [fn61,slAll,Nat.reduceBEq,Nat.reduceLeDiff,Nat.reduceAdd,List.length_cons,List.length_nil]
 simp only [e1,e2,e3,G1,G2,G3,H1,H2,List.length_map,slAll,slsAll,Nat.reduceMul,Nat.reduceBEq,Nat.reduceLT,Nat.reduceLeDiff,memAll,vAll,reduceCtorEq,Nat.reduceEqDiff,Nat.reduceAdd,Nat.reduceLT,Nat.reduceLeDiff,Nat.beq]
 rw [loop61 hz d1 d2 (by simp only [slAll,slsAll,Nat.reduceMul,Nat.reduceBEq,Nat.reduceLT,Nat.reduceLeDiff,Nat.reduceAdd,decide_true,Bool.and_self,Bool.true_and]<;>rfl)]
 rw [List.drop_zero]
 split
 ·simp only [e1,e2,e3,G1,G2,G3,H1,H2,List.length_map,slAll,slsAll,Nat.reduceMul,Nat.reduceBEq,Nat.reduceLT,Nat.reduceLeDiff,memAll,vAll,reduceCtorEq,Nat.reduceEqDiff,Nat.reduceAdd,Nat.reduceLT,Nat.reduceLeDiff,Nat.beq]
 ·simp only [e1,e2,e3,G1,G2,G3,H1,H2,List.length_map,slAll,slsAll,Nat.reduceMul,Nat.reduceBEq,Nat.reduceLT,Nat.reduceLeDiff,memAll,vAll,reduceCtorEq,Nat.reduceEqDiff,Nat.reduceAdd,Nat.reduceLT,Nat.reduceLeDiff,Nat.beq]
end Go.Proofs.Ytpdfhckdmblicaa.V

namespace Go.Proofs.Ytpdfhckdmblicaa.V
theorem bits_len (n:Nat):∀ l:List Nat,l.length=n→(exts l).length≤n:=by
 induction n with
 |zero=>intro l hl;rw [List.eq_nil_of_length_eq_zero hl];exact Nat.le_refl _
 |succ n ih =>
  intro l hl
  rcases snoc_cases l with rfl|⟨p,j,rfl⟩
  ·simp at hl
  ·have h1:=ih p (by simpa using hl)
   rw [exts_snoc]
   rcases snoc_cases (exts p) with e|⟨pre,y,e⟩
   ·rw [e];simp [addAt]
   ·rw [e] at h1 ⊢
    rw [addAt_snoc]
    simp at h1
    split<;>simp<;>omega
def bitsN (m:List Bool) (n:Nat):List Nat:=(List.range n).filter fun i=>m.getD i false
theorem bitsN_succ (m:List Bool) (n:Nat):bitsN m (n+1)=if m.getD n false then bitsN m n++[n] else bitsN m n:=by
 unfold bitsN
 rw [List.range_succ,List.filter_append]
 split
 ·rename_i h;rw [List.filter_cons_of_pos (by simpa using h),List.filter_nil]
 ·rename_i h;rw [List.filter_cons_of_neg (by simpa using h),List.filter_nil,List.append_nil]
theorem bitsN_lt {m:List Bool} {n i:Nat} (h:i∈bitsN m n):i<n:=by
 unfold bitsN at h
 exact List.mem_range.1 (List.mem_filter.1 h).1
theorem bitsN_at {m:List Bool} {n i:Nat} (h:i∈bitsN m n):m.getD i false=true:=by
 unfold bitsN at h
 exact (List.mem_filter.1 h).2
theorem bitsN_len (m:List Bool) (n:Nat):(bitsN m n).length≤n:=by
 have:=List.length_filter_le (fun i=>m.getD i false) (List.range n)
 simpa [bitsN] using this
set_option maxRecDepth 20000 in
theorem loop62 {m:List Bool} (hl:m.length≤lim) {st:St} (h:st.head [0,3,4,39] st.boxes.length=some ⟨sl 41 [(0,.pv (.list 1 (m.map eB))),(3,.row 2 ((exts (bitsN m ((0:Nat)))).map eExt)),(4,.pv (.int .i64 (0:Nat))),(39,.any)],[],[],none⟩) :
  den env fn62_l1 st=some (.normal,⟨sl 41 [(2,.any),(3,.row 2 ((exts (bitsN m m.length)).map eExt))],[],[],none⟩):=by
 unfold fn62_l1
 refine clean_up (env:=env) (m.length) (fun i=>⟨sl 41 [(0,.pv (.list 1 (m.map eB))),(3,.row 2 ((exts (bitsN m (i))).map eExt)),(4,.pv (.int .i64 i)),(39,.any)],[],[],none⟩) (fun i=>some (.normal,⟨sl 41 [(2,.any),(3,.row 2 ((exts (bitsN m m.length)).map eExt))],[],[],none⟩)) h (fun _=>rfl) (fun _=>by simp only [slAll,slsAll,Nat.reduceMul,Nat.reduceBEq,Nat.reduceLT,Nat.reduceLeDiff,Nat.reduceAdd,decide_true,Bool.and_self,Bool.true_and]) ?_ ?_
 ·intro i rb hi ih
  have hi1:=i64_next hi hl
  have hlim:lim=1073741824:=rfl
  have F1:((i:Int)<(m.length:Int))=True:=eq_true (by omega)
  have hx:m[i]?=some m[i]:=List.getElem?_eq_getElem hi
  have hg:m.getD i false=m[i]:=by rw [List.getD_eq_getElem?_getD,hx];rfl
  generalize m[i]=x at *
  cases x with
  |false =>
   simp only [fn62_b0,F1,hx,eB,index_nat hi,List.getElem?_map,Option.map_some,List.length_map,slAll,slsAll,Nat.reduceMul,Nat.reduceBEq,Nat.reduceLT,Nat.reduceLeDiff,memAll,vAll,reduceCtorEq,Nat.reduceEqDiff,Nat.reduceAdd,Nat.reduceLT,Nat.reduceLeDiff,Nat.beq]
   rw [ih _ (by simp only [hi1,bitsN_succ,hg,Bool.false_eq_true,if_false,slAll,slsAll,Nat.reduceMul,Nat.reduceBEq,Nat.reduceLT,Nat.reduceLeDiff,memAll,vAll,reduceCtorEq,Nat.reduceEqDiff,Nat.reduceAdd,Nat.reduceLT,Nat.reduceLeDiff,Nat.beq]<;>rfl)]
  |true =>
   by_cases hp:0<i∧m.getD (i - 1) false=true
   ·obtain ⟨j,rfl⟩:∃ j,i=j+1:=⟨i - 1,by omega⟩
    rw [Nat.add_sub_cancel] at hp
    have hj:j<m.length:=by omega
    have hjx:m[j]?=some true:=by
     have:=hp.2
     rw [List.getD_eq_getElem?_getD,List.getElem?_eq_getElem hj] at this
     rw [List.getElem?_eq_getElem hj];simpa using this
    have hb1:bitsN m (j+1)=bitsN m j++[j]:=by rw [bitsN_succ,if_pos hp.2]
    have hb2:bitsN m (j+1+1)=bitsN m j++[j]++[j+1]:=by rw [bitsN_succ,if_pos hg,hb1]
    obtain ⟨pre,⟨s,c⟩,e0,h1,h2,h3,h4⟩:=exts_last _ (bitsN m j) rfl j
    have hlen:=bitsN_len m j
    simp only at h1 h2 h3
    have G1:(((j+1:Nat):Int) > 0)=True:=eq_true (by omega)
    have G2:IntKind.i64.wrap (((j+1:Nat):Int) - 1)=(j:Int):=by rw [i64_fits (by omega)];omega
    have F3:=wrap_pred (n:=pre.length) (by omega)
    have F5:IntKind.i64.wrap (c+1)=c+1:=i64_fits (by omega)
    have F7:index (.int .i64 (pre.length:Int)) (pre.length+1)=some pre.length:=index_nat (by omega)
    rw [hb1,e0]
    simp only [fn62_b0,F1,hx,hjx,eB,G1,G2,index_nat hi,index_nat hj,List.getElem?_map,Option.map_some,List.length_map,List.map_append,List.map_cons,List.map_nil,eExt,F3,F5,F7,slAll,slsAll,Nat.reduceMul,Nat.reduceBEq,Nat.reduceLT,Nat.reduceLeDiff,memAll,vAll,reduceCtorEq,Nat.reduceEqDiff,Nat.reduceAdd,Nat.reduceLT,Nat.reduceLeDiff,Nat.beq]
    rw [ih _ (by simp only [hi1,hb2,slAll,slsAll,Nat.reduceMul,Nat.reduceBEq,Nat.reduceLT,Nat.reduceLeDiff,memAll,vAll,reduceCtorEq,Nat.reduceEqDiff,Nat.reduceAdd,Nat.reduceLT,Nat.reduceLeDiff,Nat.beq];rw [exts_snoc,e0,addAt_snoc,if_pos (by simp only;omega)];simp only [List.map_append,List.map_cons,List.map_nil,eExt,slAll,slsAll,Nat.reduceMul,Nat.reduceBEq,Nat.reduceLT,Nat.reduceLeDiff,memAll,vAll,reduceCtorEq,Nat.reduceEqDiff,Nat.reduceAdd,Nat.reduceLT,Nat.reduceLeDiff,Nat.beq]<;>rfl)]
   ·have hnew:exts (bitsN m (i+1))=exts (bitsN m i)++[⟨(i:Int),1⟩]:=by
     rw [bitsN_succ,if_pos hg,exts_snoc]
     rcases snoc_cases (bitsN m i) with h0|⟨p,j,h0⟩
     ·rw [h0];rfl
     ·obtain ⟨pre,⟨s,c⟩,e0,h1,h2,h3,h4⟩:=exts_last _ p rfl j
      have hmem:j∈bitsN m i:=by rw [h0];simp
      have hji:=bitsN_lt hmem
      have hjt:=bitsN_at hmem
      simp only at h1
      rw [h0,e0,addAt_snoc,if_neg]
      intro h
      simp only at h
      have:j=i - 1:=by omega
      rw [this] at hjt
      exact hp ⟨by omega,hjt⟩
    have hlen:(exts (bitsN m i)).length≤i:=Nat.le_trans (bits_len _ _ rfl) (bitsN_len m i)
    have F6:((exts (bitsN m i)).length+1≤lim)=True:=eq_true (by omega)
    by_cases h0:0<i
    ·obtain ⟨j,rfl⟩:∃ j,i=j+1:=⟨i - 1,by omega⟩
     have hj:j<m.length:=by omega
     have hjx:m[j]?=some false:=by
      have h2:¬ m.getD j false=true:=fun h=>hp ⟨h0,by rw [Nat.add_sub_cancel];exact h⟩
      rw [List.getD_eq_getElem?_getD,List.getElem?_eq_getElem hj] at h2
      rw [List.getElem?_eq_getElem hj];simpa using h2
     have G1:(((j+1:Nat):Int) > 0)=True:=eq_true (by omega)
     have G2:IntKind.i64.wrap (((j+1:Nat):Int) - 1)=(j:Int):=by rw [i64_fits (by omega)];omega
     simp only [fn62_b0,F1,hx,hjx,eB,G1,G2,F6,index_nat hi,index_nat hj,List.getElem?_map,Option.map_some,List.length_map,slAll,slsAll,Nat.reduceMul,Nat.reduceBEq,Nat.reduceLT,Nat.reduceLeDiff,memAll,vAll,reduceCtorEq,Nat.reduceEqDiff,Nat.reduceAdd,Nat.reduceLT,Nat.reduceLeDiff,Nat.beq]
     rw [ih _ (by simp only [hi1,hnew,List.map_append,List.map_cons,List.map_nil,eExt,slAll,slsAll,Nat.reduceMul,Nat.reduceBEq,Nat.reduceLT,Nat.reduceLeDiff,memAll,vAll,reduceCtorEq,Nat.reduceEqDiff,Nat.reduceAdd,Nat.reduceLT,Nat.reduceLeDiff,Nat.beq]<;>rfl)]
    ·obtain rfl:i=0:=by omega
     have G1:(((0:Nat):Int) > 0)=False:=eq_false (by omega)
     simp only [fn62_b0,F1,hx,eB,G1,F6,index_nat hi,List.getElem?_map,Option.map_some,List.length_map,slAll,slsAll,Nat.reduceMul,Nat.reduceBEq,Nat.reduceLT,Nat.reduceLeDiff,memAll,vAll,reduceCtorEq,Nat.reduceEqDiff,Nat.reduceAdd,Nat.reduceLT,Nat.reduceLeDiff,Nat.beq]
     rw [ih _ (by simp only [hi1,hnew,List.map_append,List.map_cons,List.map_nil,eExt,slAll,slsAll,Nat.reduceMul,Nat.reduceBEq,Nat.reduceLT,Nat.reduceLeDiff,memAll,vAll,reduceCtorEq,Nat.reduceEqDiff,Nat.reduceAdd,Nat.reduceLT,Nat.reduceLeDiff,Nat.beq]<;>rfl)]
 ·intro rb
  simp only [fn62_b0,Int.lt_irrefl,List.length_map,slAll,slsAll,Nat.reduceMul,Nat.reduceBEq,Nat.reduceLT,Nat.reduceLeDiff,memAll,vAll,reduceCtorEq,Nat.reduceEqDiff,Nat.reduceAdd,Nat.reduceLT,Nat.reduceLeDiff,Nat.beq]
theorem cal62 {m:List Bool} (hl:m.length≤lim):cal env 62 [.list 1 (m.map eB)]=some [(.list 2 ((exts (bitsN m m.length)).map eExt),true)]:=by
 rw [cal_code env62 rfl];simp only [fn62,slAll,Nat.reduceBEq,Nat.reduceLeDiff,Nat.reduceAdd,List.length_cons,List.length_nil]
 simp only [ slAll,slsAll,Nat.reduceMul,Nat.reduceBEq,Nat.reduceLT,Nat.reduceLeDiff,memAll,vAll,reduceCtorEq,Nat.reduceEqDiff,Nat.reduceAdd,Nat.reduceLT,Nat.reduceLeDiff,Nat.beq]
 rw [loop62 hl (by simp only [slAll,slsAll,Nat.reduceMul,Nat.reduceBEq,Nat.reduceLT,Nat.reduceLeDiff,Nat.reduceAdd,decide_true,Bool.and_self,Bool.true_and]<;>rfl)]
 simp only [ slAll,slsAll,Nat.reduceMul,Nat.reduceBEq,Nat.reduceLT,Nat.reduceLeDiff,memAll,vAll,reduceCtorEq,Nat.reduceEqDiff,Nat.reduceAdd,Nat.reduceLT,Nat.reduceLeDiff,Nat.beq]
end Go.Proofs.Ytpdfhckdmblicaa.V
