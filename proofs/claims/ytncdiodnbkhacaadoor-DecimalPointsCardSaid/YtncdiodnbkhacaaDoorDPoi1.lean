import Derived.Test.YtncdiodnbkhacaaDoorProg
import Derived.Test.YtncdiodnbkhacaaDoorRows
import Derived.ArgAppend
import Derived.Below
import Derived.BigQuiet
import Derived.ChangeOld
import Derived.ChangeSlices
import Derived.Deep.AppendLies
import Derived.Deep.CutBlock
import Derived.Deep.DeepCutAuto
import Derived.Deep.DeepHandedRow
import Derived.Deep.DeepLaidRun
import Derived.Deep.Draws
import Derived.Deep.LoopGhost
import Derived.Deep.OwnRows
import Derived.Deep.QuietTactic
import Derived.Deep.RegionHeld3
import Derived.Ground.NamesProg
import Derived.KernelRfl
import Derived.Laws.BitsLemmas
import Derived.Laws.BytesArg
import Derived.Laws.IdiomCopy
import Derived.Laws.MakeOwn
import Derived.Laws.OwnMore
import Derived.Laws.Rows
import Derived.Laws.Slices
import Derived.Laws.StructEq
import Derived.Lib.AppendStr
import Derived.Lib.ConvBytes
import Derived.LoopIn
import Derived.LoopNIn
import Derived.Maps.AppendAt
import Derived.OpenShut
import Derived.OrdersHeld
import Derived.OwnWalk
import Derived.OwnWalkIn
import Derived.ProofKit
import Derived.RangeFuncBox
import Derived.RangeFuncCalls
import Derived.RangeFuncLeaves
import Derived.RangeFuncWrites
import Derived.RowKit
import Derived.RowKit3
import Derived.SevenTiedAt
import Derived.Shelf.Abstract
import Derived.Shelf.Strings.Builder1
import Derived.Shelf.Strings.BuilderF
import Derived.Shelf.Strings.BuilderK
import Derived.Shelf.Strings.Repeat
import Derived.Shelf.Strings.SlTrimAscii
import Derived.Shelf.Strings.Trim
import Derived.ShutString
import Derived.SizedLaws
import Derived.Tactics
import Derived.TacticsInMore
import Derived.WalkKit
import Derived.WalkSpells
import Derived.WideLaws
set_option linter.unusedVariables false
set_option linter.unusedSimpArgs false
section
namespace Go.Proofs.YtncdiodnbkhacaaDoor.Lb
open Go
def ranges : Array Value:=#[128,191,160,191,128,159,144,191,128,143,0,0,0,0,0,0,0,0,0,0,0,0,0,0,0,0,0,0,0,0,0,0].map fun n=>.int .u8 n
def first : Array Value:=(Go.Pinned.utf8FirstZ.map fun (n : Nat)=>Value.int .u8 n).toArray
def lay (cs : Array Value) : Obj→Obj
|.cells _ t frozen=>.cells cs t frozen
|o=>o
noncomputable def world (os : Os) : World :=
 { World.holding Tryd.prog os ⟨#[],#[],[]⟩ with heap:=((World.holding Tryd.prog os ⟨#[],#[],[]⟩).heap.modify 2 (lay first)).modify 3 (lay ranges) }
abbrev rows : List (String × DataW Unit):=[("unicode/utf8.acceptRanges",Rows.laid_unicode_utf8_acceptRanges),("unicode/utf8.first",Rows.laid_unicode_utf8_first)]
set_option maxRecDepth 100000
theorem met (os : Os) (args : Array Value) : laidMet Tryd.prog rows ((world os).forCall (fun _ _=>0) ⟨#[],args,[]⟩).memory :=
 laidMet_of_run3 8 (by kernel_rfl) (by kernel_rfl) (by kernel_rfl)
theorem vars (os : Os) (args : Array Value) : ((world os).forCall (fun _ _=>0) ⟨#[],args,[]⟩).variablesB Tryd.prog=true:=by kernel_rfl
theorem rest (os : Os) (args : Array Value) : (((world os).forCall (fun _ _=>0) ⟨#[],args,[]⟩).heap.toList.drop Tryd.prog.globals.size).take ((begin Tryd.prog (fun _ _=>0) default).world.heap.size - Tryd.prog.globals.size) =
   (begin Tryd.prog (fun _ _=>0) default).world.heap.toList.drop Tryd.prog.globals.size:=by kernel_rfl
end Go.Proofs.YtncdiodnbkhacaaDoor.Lb
end
section
namespace Go.Proofs
open Go.Shelf
def Tryd.lays169_ren : Go.Shelf.Ren:=⟨fun|169=>41|n=>n,fun|70=>57|9=>9|0=>0|72=>59|37=>39|127=>93|3=>3|5=>5|n=>n,fun|n=>n⟩
theorem Tryd.lays169 : Go.Proofs.Lays.n169 Tryd.prog Tryd.lays169_ren:={
 mixed:=by kernel_rfl
 f169:=Tryd.func41.trans (congrArg some (by kernel_rfl))
 t0:=Tryd.underlying0
 a0:=Tryd.isAgg0
 z0:=Tryd.sizeOf0
 v0:=Tryd.zeroValue0
 t3:=Tryd.underlying3
 a3:=Tryd.isAgg3
 z3:=Tryd.sizeOf3
 v3:=Tryd.zeroValue3
 t9:=Tryd.underlying9
 a9:=Tryd.isAgg9
 z9:=Tryd.sizeOf9
 v9:=Tryd.zeroValue9
 t37:=Tryd.underlying39
 a37:=Tryd.isAgg39
 z37:=Tryd.sizeOf39
 v37:=Tryd.zeroValue39
 t70:=Tryd.underlying57
 a70:=Tryd.isAgg57
 z70:=Tryd.sizeOf57
 v70:=Tryd.zeroValue57
 t72:=Tryd.underlying59
 a72:=Tryd.isAgg59
 z72:=Tryd.sizeOf59
 v72:=Tryd.zeroValue59
 t127:=Tryd.underlying93
 a127:=Tryd.isAgg93
 z127:=Tryd.sizeOf93
 v127:=Tryd.zeroValue93 }
theorem Tryd.Builder_Extra_169 : Builder.Extra Tryd.prog Tryd.lays169_ren:={
 sizeBuilder:=by kernel_rfl
 liesBuilder:=by kernel_rfl
 t5:=Tryd.underlying5
 a5:=Tryd.isAgg5
 z5:=Tryd.sizeOf5
 v5:=Tryd.zeroValue5
 infoByte:=by kernel_rfl
 cellsByte:=by kernel_rfl
 sizeByte:=by kernel_rfl
 neB5:=by decide }
def Tryd.lays161_ren : Go.Shelf.Ren:=⟨fun|161=>40|231=>66|227=>67|233=>68|235=>69|228=>92|197=>93|151=>94|260=>99|152=>100|137=>101|119=>102|224=>103|225=>104|217=>105|266=>106|n=>n,fun|9=>9|4=>4|3=>3|5=>5|117=>89|116=>88|0=>0|124=>92|105=>113|21=>21|119=>119|46=>69|139=>122|138=>121|n=>n,fun|3=>2|4=>3|n=>n⟩
theorem Tryd.lays161 : Go.Proofs.Lays.n161 Tryd.prog Tryd.lays161_ren:={
 mixed:=by kernel_rfl
 f119:=Tryd.func102.trans (congrArg some (by kernel_rfl))
 f137:=Tryd.func101.trans (congrArg some (by kernel_rfl))
 f151:=Tryd.func94.trans (congrArg some (by kernel_rfl))
 f152:=Tryd.func100.trans (congrArg some (by kernel_rfl))
 f161:=Tryd.func40.trans (congrArg some (by kernel_rfl))
 f197:=Tryd.func93.trans (congrArg some (by kernel_rfl))
 f217:=Tryd.func105.trans (congrArg some (by kernel_rfl))
 f224:=Tryd.func103.trans (congrArg some (by kernel_rfl))
 f225:=Tryd.func104.trans (congrArg some (by kernel_rfl))
 f227:=Tryd.func67.trans (congrArg some (by kernel_rfl))
 f228:=Tryd.func92.trans (congrArg some (by kernel_rfl))
 f231:=Tryd.func66.trans (congrArg some (by kernel_rfl))
 f233:=Tryd.func68.trans (congrArg some (by kernel_rfl))
 f235:=Tryd.func69.trans (congrArg some (by kernel_rfl))
 f260:=Tryd.func99.trans (congrArg some (by kernel_rfl))
 f266:=Tryd.func106.trans (congrArg some (by kernel_rfl))
 t0:=Tryd.underlying0
 a0:=Tryd.isAgg0
 z0:=Tryd.sizeOf0
 v0:=Tryd.zeroValue0
 t3:=Tryd.underlying3
 a3:=Tryd.isAgg3
 z3:=Tryd.sizeOf3
 v3:=Tryd.zeroValue3
 t4:=Tryd.underlying4
 a4:=Tryd.isAgg4
 z4:=Tryd.sizeOf4
 v4:=Tryd.zeroValue4
 t5:=Tryd.underlying5
 a5:=Tryd.isAgg5
 z5:=Tryd.sizeOf5
 v5:=Tryd.zeroValue5
 t9:=Tryd.underlying9
 a9:=Tryd.isAgg9
 z9:=Tryd.sizeOf9
 v9:=Tryd.zeroValue9
 t21:=Tryd.underlying21
 a21:=Tryd.isAgg21
 z21:=Tryd.sizeOf21
 v21:=Tryd.zeroValue21
 t46:=Tryd.underlying69
 a46:=Tryd.isAgg69
 z46:=Tryd.sizeOf69
 v46:=Tryd.zeroValue69
 t105:=Tryd.underlying113
 a105:=Tryd.isAgg113
 z105:=Tryd.sizeOf113
 v105:=Tryd.zeroValue113
 t116:=Tryd.underlying88
 a116:=Tryd.isAgg88
 z116:=Tryd.sizeOf88
 t117:=Tryd.underlying89
 a117:=Tryd.isAgg89
 z117:=Tryd.sizeOf89
 v117:=Tryd.zeroValue89
 t119:=Tryd.underlying119
 a119:=Tryd.isAgg119
 z119:=Tryd.sizeOf119
 t124:=Tryd.underlying92
 a124:=Tryd.isAgg92
 z124:=Tryd.sizeOf92
 v124:=Tryd.zeroValue92
 t138:=Tryd.underlying121
 a138:=Tryd.isAgg121
 z138:=Tryd.sizeOf121
 v138:=Tryd.zeroValue121
 t139:=Tryd.underlying122
 a139:=Tryd.isAgg122
 z139:=Tryd.sizeOf122
 v139:=Tryd.zeroValue122
 g3:=by kernel_rfl
 g4:=by kernel_rfl }
def Tryd.lays105_ren : Go.Shelf.Ren:=⟨fun|105=>27|212=>52|99=>53|165=>54|166=>39|170=>55|169=>41|263=>80|264=>81|206=>79|240=>65|241=>82|276=>91|277=>97|n=>n,fun|9=>9|3=>3|4=>4|20=>20|0=>0|46=>69|109=>76|5=>5|72=>59|76=>65|51=>35|146=>99|53=>52|148=>101|70=>57|37=>39|75=>64|127=>93|164=>110|80=>68|n=>n,fun|n=>n⟩
theorem Tryd.lays105 : Go.Proofs.Lays.n105 Tryd.prog Tryd.lays105_ren:={
 mixed:=by kernel_rfl
 f99:=Tryd.func53.trans (congrArg some (by kernel_rfl))
 f105:=Tryd.func27.trans (congrArg some (by kernel_rfl))
 f165:=Tryd.func54.trans (congrArg some (by kernel_rfl))
 f166:=Tryd.func39.trans (congrArg some (by kernel_rfl))
 f169:=Tryd.func41.trans (congrArg some (by kernel_rfl))
 f170:=Tryd.func55.trans (congrArg some (by kernel_rfl))
 f206:=Tryd.func79.trans (congrArg some (by kernel_rfl))
 f212:=Tryd.func52.trans (congrArg some (by kernel_rfl))
 f240:=Tryd.func65.trans (congrArg some (by kernel_rfl))
 f241:=Tryd.func82.trans (congrArg some (by kernel_rfl))
 f263:=Tryd.func80.trans (congrArg some (by kernel_rfl))
 f264:=Tryd.func81.trans (congrArg some (by kernel_rfl))
 f276:=Tryd.func91.trans (congrArg some (by kernel_rfl))
 f277:=Tryd.func97.trans (congrArg some (by kernel_rfl))
 t0:=Tryd.underlying0
 a0:=Tryd.isAgg0
 z0:=Tryd.sizeOf0
 v0:=Tryd.zeroValue0
 t3:=Tryd.underlying3
 a3:=Tryd.isAgg3
 z3:=Tryd.sizeOf3
 v3:=Tryd.zeroValue3
 t4:=Tryd.underlying4
 a4:=Tryd.isAgg4
 z4:=Tryd.sizeOf4
 v4:=Tryd.zeroValue4
 t5:=Tryd.underlying5
 a5:=Tryd.isAgg5
 z5:=Tryd.sizeOf5
 v5:=Tryd.zeroValue5
 t9:=Tryd.underlying9
 a9:=Tryd.isAgg9
 z9:=Tryd.sizeOf9
 v9:=Tryd.zeroValue9
 t20:=Tryd.underlying20
 a20:=Tryd.isAgg20
 z20:=Tryd.sizeOf20
 v20:=Tryd.zeroValue20
 t37:=Tryd.underlying39
 a37:=Tryd.isAgg39
 z37:=Tryd.sizeOf39
 v37:=Tryd.zeroValue39
 t46:=Tryd.underlying69
 a46:=Tryd.isAgg69
 z46:=Tryd.sizeOf69
 v46:=Tryd.zeroValue69
 t51:=Tryd.underlying35
 a51:=Tryd.isAgg35
 z51:=Tryd.sizeOf35
 v51:=Tryd.zeroValue35
 t53:=Tryd.underlying52
 a53:=Tryd.isAgg52
 z53:=Tryd.sizeOf52
 v53:=Tryd.zeroValue52
 t70:=Tryd.underlying57
 a70:=Tryd.isAgg57
 z70:=Tryd.sizeOf57
 v70:=Tryd.zeroValue57
 t72:=Tryd.underlying59
 a72:=Tryd.isAgg59
 z72:=Tryd.sizeOf59
 v72:=Tryd.zeroValue59
 t75:=Tryd.underlying64
 a75:=Tryd.isAgg64
 z75:=Tryd.sizeOf64
 v75:=Tryd.zeroValue64
 t76:=Tryd.underlying65
 a76:=Tryd.isAgg65
 z76:=Tryd.sizeOf65
 v76:=Tryd.zeroValue65
 t109:=Tryd.underlying76
 a109:=Tryd.isAgg76
 z109:=Tryd.sizeOf76
 v109:=Tryd.zeroValue76
 t127:=Tryd.underlying93
 a127:=Tryd.isAgg93
 z127:=Tryd.sizeOf93
 v127:=Tryd.zeroValue93
 t146:=Tryd.underlying99
 a146:=Tryd.isAgg99
 z146:=Tryd.sizeOf99
 v146:=Tryd.zeroValue99
 t148:=Tryd.underlying101
 a148:=Tryd.isAgg101
 z148:=Tryd.sizeOf101
 v148:=Tryd.zeroValue101
 t164:=Tryd.underlying110
 a164:=Tryd.isAgg110
 z164:=Tryd.sizeOf110
 v164:=Tryd.zeroValue110 }
theorem Tryd.Builder_Extra_105 : Builder.Extra Tryd.prog Tryd.lays105_ren:={
 sizeBuilder:=by kernel_rfl
 liesBuilder:=by kernel_rfl
 t5:=Tryd.underlying5
 a5:=Tryd.isAgg5
 z5:=Tryd.sizeOf5
 v5:=Tryd.zeroValue5
 infoByte:=by kernel_rfl
 cellsByte:=by kernel_rfl
 sizeByte:=by kernel_rfl
 neB5:=by decide }
end Go.Proofs
end
section
section
set_option linter.unusedVariables false
set_option linter.unusedSimpArgs false
namespace Go
def World.slackRow (w : World) (base : Nat) (e : TypeId) (size : Nat) (v : Value) (n : Nat) (xs : List Value) : Prop :=
 xs.length=n * size ∧
 ((v=.slice none 0 0∧n=0) ∨
  ∃ g cap cur,v=.slice (some ⟨g,0,none⟩) n cap∧base≤g∧w.heap[g]? = some (.cells cur e (0,0))∧n≤cap∧cap≤maxLen∧cap * size≤cur.size∧cur.toList.take (n * size)=xs)
section
variable {w : World} {base : Nat} {e : TypeId} {size : Nat} {v : Value} {n : Nat} {xs : List Value}
theorem World.ownsRow.slack (h : w.ownsRow base e size v n xs) : w.slackRow base e size v n xs:=by
 obtain ⟨h1,h2|⟨g,cap,cur,a,b,c,d,f,k,l⟩⟩:=h
 ·exact ⟨h1,.inl h2⟩
 ·exact ⟨h1,.inr ⟨g,cap,cur,a,b,c,d,f,Nat.le_of_eq k.symm,l⟩⟩
theorem World.slackRow_lit (w : World) (cs : Array Value) (n : Nat) (hb : base≤w.heap.size) (hm : n≤maxLen) (hs : cs.size=n * size) :
  (w.alloc (.cells cs e)).slackRow base e size (.slice (some ⟨w.heap.size,0,none⟩) n n) n cs.toList:=(World.ownsRow_lit w cs n hb hm hs).slack
theorem World.slackRow.lt (h : w.slackRow base e size v n xs) : ∀ k,v.ownBlock=some k→base≤k∧k < w.heap.size:=by
 intro k hk
 rcases h.2 with ⟨he,_⟩|⟨g,cap,cur,he,hb,hg,_⟩ <;> subst he
 ·cases hk
 ·injection hk with hk
  subst hk
  exact ⟨hb,(Array.getElem?_eq_some_iff.1 hg).1⟩
theorem World.slackRow.kept {w' : World} {row : Option Nat} (h : w.slackRow base e size v n xs) (hg : w.grownBy w' row) (hne : v.ownBlock=none∨v.ownBlock≠row) : w'.slackRow base e size v n xs:=by
 obtain ⟨h1,h2|⟨g,cap,cur,he,hb,hh,hr⟩⟩:=h
 ·exact ⟨h1,.inl h2⟩
 ·subst he
  exact ⟨h1,.inr ⟨g,cap,cur,rfl,hb,(hg.block g (Array.getElem?_eq_some_iff.1 hh).1 (by simpa [Value.ownBlock] using hne)).trans hh,hr⟩⟩
theorem World.slackRow.alloc (h : w.slackRow base e size v n xs) (o : Obj) : (w.alloc o).slackRow base e size v n xs:=by
 obtain ⟨h1,h2|⟨g,cap,cur,he,hb,hh,hr⟩⟩:=h
 ·exact ⟨h1,.inl h2⟩
 ·exact ⟨h1,.inr ⟨g,cap,cur,he,hb,(heap_alloc_old w o (Array.getElem?_eq_some_iff.1 hh).1).trans hh,hr⟩⟩
theorem World.slackRow.drew (h : w.slackRow base e size v n xs) : w.drew.slackRow base e size v n xs:=h
theorem World.slackRow.cells (h : w.slackRow base e size v n xs) {g : Nat} (hg : v.ownBlock=some g) : ∀ j u,xs[j]? = some u→w.cell? ((⟨g,0,none⟩ : Addr).add j)=some u:=by
 intro j u hu
 rcases h.2 with ⟨he,_⟩|⟨g',cap,cur,he,_,hh,_,_,_,ht⟩ <;> subst he
 ·cases hg
 ·injection hg with hg
  subst hg
  have ha : (⟨g',0,none⟩ : Addr).add j=⟨g',j,none⟩:=by unfold Addr.add;split <;> simp_all
  rw [ha,cell_of_row w g' j cur e (0,0) hh]
  rw [← ht,List.getElem?_take] at hu
  split at hu
  ·simpa using hu
  ·cases hu
theorem World.slackRow.form (h : w.slackRow base e size v n xs) (hn : 0 < n) : ∃ g cap,v=.slice (some ⟨g,0,none⟩) n cap∧base≤g∧g < w.heap.size:=by
 rcases h.2 with ⟨_,h0⟩|⟨g,cap,cur,he,hb,hh,_⟩
 ·omega
 ·exact ⟨g,cap,he,hb,(Array.getElem?_eq_some_iff.1 hh).1⟩
theorem World.slackRow.stored {g cap : Nat} (h : w.slackRow base e size (.slice (some ⟨g,0,none⟩) n cap) n xs) (j : Nat) (u : Value) :
  (w.setCell ⟨g,j,none⟩ u).slackRow base e size (.slice (some ⟨g,0,none⟩) n cap) n (xs.set j u)∧w.grownBy (w.setCell ⟨g,j,none⟩ u) (some g):=by
 rcases h.2 with ⟨h',_⟩|⟨g',cap',cur,h',hb,hg,hnc,hcm,hcs,ht⟩
 ·cases h'
 ·injection h' with ha _ hc
  injection ha with ha
  injection ha with ha
  subst ha;subst hc
  refine ⟨⟨by simpa using h.1,.inr ⟨g,cap,cur.setIfInBounds j u,rfl,hb,heap_setCell_same w g j cur e u hg,hnc,hcm,by simpa using hcs,?_⟩⟩,
   ⟨rfl,rfl,rfl,by simp,fun k _ hk=>heap_setCell_other w ⟨g,j,none⟩ k u (fun e=>hk (by simp [e]))⟩⟩
  rw [Array.toList_setIfInBounds,← ht,List.take_set]
theorem slack_take {A : Option Addr} {m c c' : Nat} (h : w.slackRow base e size (.slice A n c) n xs) (hm : m≤n) (hc : m≤c') (hc' : c'≤c) : w.slackRow base e size (.slice A m c') m (xs.take (m * size)):=by
 obtain ⟨h1,h2⟩:=h
 refine ⟨by rw [List.length_take,h1];exact Nat.min_eq_left (Nat.mul_le_mul_right _ hm),?_⟩
 rcases h2 with ⟨he,h0⟩|⟨g,cap,cur,he,hb,hh,hnc,hcm,hcs,ht⟩
 ·injection he with ha _ hcc
  subst ha;subst hcc
  have hm0 : m=0:=by omega
  have hc0 : c'=0:=by omega
  subst hm0;subst hc0
  exact .inl ⟨rfl,rfl⟩
 ·injection he with ha _ hcc
  subst ha;subst hcc
  refine .inr ⟨g,c',cur,rfl,hb,hh,hc,Nat.le_trans hc' hcm,Nat.le_trans (Nat.mul_le_mul_right _ hc') hcs,?_⟩
  rw [← ht,List.take_take,Nat.min_eq_left (Nat.mul_le_mul_right _ hm)]
end
section
variable {P : Program} (w : World)
theorem run_append_slack_at (base : Nat) (t ty e : TypeId) (i : TypeInfo) (z : Value) (size bytes : Nat) (ht : P.underlying t=some (.slice e)) (hi : P.info? e=some i) (hz : i.zero=some z)
  (hsize : i.size=size) (hby : i.bytes=bytes) (hzs : z.cells.size=size) (hsz : 0 < size)
  (v : Value) (n : Nat) (xs : List Value) (hown : w.slackRow base e size v n xs)
  (a : Addr) (m c : Nat) (news : List Value) (hl : news.length=m * size) (hnews : ∀ j u,news[j]? = some u→w.cell? (a.add j)=some u) (h1 : ∀ u∈news,u.oneCell'=true)
  (h63 : n+m≤maxLen) (hbytes : (n+m) * bytes≤140737488355328) (hbase : base≤w.heap.size) :
  ∃ v' w',(Builtin.append_ #[t,t] ty #[v,.slice (some a) m c]).run P w=.ok v' w'∧w'.slackRow base e size v' (n+m) (xs++news)∧w.grownBy w' v.ownBlock∧True∧(v'.ownBlock=v.ownBlock∨v'.ownBlock=some w.heap.size):=by
 rcases hown.2 with ⟨he,h0⟩|⟨g,cap,cur,he,hb,hh,hnc,hcm,hcs,htake⟩
 ·subst he;subst h0
  obtain ⟨v',w',hr,h2,h3,_,h5⟩:=run_append_own_at (P:=P) (w:=w) base t ty e i z size bytes ht hi hz hsize hby hzs hsz (.slice none 0 0) 0 xs ⟨hown.1,.inl ⟨rfl,rfl⟩⟩ a m c news hl hnews h1 h63 hbytes hbase
  exact ⟨v',w',hr,h2.slack,h3,trivial,h5⟩
 ·subst he
  have hlen : (xs++news).length=(n+m) * size:=by rw [List.length_append,hown.1,hl,Nat.add_mul]
  by_cases hroom : n+m≤cap
  ·subst hsize
   have hfit : n * i.size+news.length≤cur.size:=by
    rw [hl,← Nat.add_mul]
    exact Nat.le_trans (Nat.mul_le_mul_right _ hroom) hcs
   have hr:=run_append_room (P:=P) w t ty e i ht hi g n cap cur hh a m c news hl hnews h1 hroom hfit
   refine ⟨_,_,hr,⟨hlen,.inr ⟨g,cap,_,rfl,hb,setRow_heap w g cur _ e _ hh,hroom,hcm,?_,?_⟩⟩,⟨rfl,rfl,rfl,by simp,fun k _ hk=>setRow_other w g k _ (fun e=>hk (by simp [Value.ownBlock,e]))⟩,trivial,Or.inl rfl⟩
   ·simp only [List.size_toArray,List.length_append,List.length_take,List.length_drop,Array.length_toList]
    omega
   ·rw [htake,← hlen]
    exact List.take_left
  ·have hr:=run_append_grow (P:=P) w t ty e i z ht hi hz ⟨g,0,none⟩ n cap xs (by rw [hsize];exact hown.1) (hown.cells (g:=g) rfl) a m c news (by rw [hsize];exact hl) hnews (by omega) (by simp only [maxLen] at h63;omega) (by rw [hby];exact growslice_fits (by omega) hbytes)
   have hge:=grownCap_ge w (n+m) cap e
   have hcm2 : grownCap w (n+m) cap e≤maxLen:=grownCap_le_maxLen w (n+m) cap e h63
   refine ⟨_,_,hr,⟨hlen,.inr ⟨w.heap.size,_,_,rfl,hbase,heap_alloc_new w.drew _,hge,hcm2,?_,?_⟩⟩,⟨rfl,rfl,rfl,by simp,fun k hk _=>heap_alloc_old w.drew _ hk⟩,trivial,Or.inr rfl⟩
   ·simp only [Array.size_append,List.size_toArray,size_zeroCells,hzs,hown.1,hl,← Nat.add_mul]
    exact Nat.mul_le_mul_right _ (by omega)
   ·simp only [Array.toList_append,List.append_assoc]
    rw [← List.append_assoc,← hlen]
    exact List.take_left
theorem wpList_append_slack_at {ops : Array Oper} {rest : List Oper} {o : Oper} {a : Act} {Q : Exit→Act→World→Prop} (hgd : o.guard=none) (s x : Operand) (t : TypeId)
  (ho : o.op=.call { callee:=.builtin .append,args:=#[s,x],argTypes:=#[t,t] })
  (base : Nat) (e : TypeId) (i : TypeInfo) (z : Value) (size bytes : Nat) (ht : P.underlying t=some (.slice e)) (hi : P.info? e=some i) (hz : i.zero=some z)
  (hsize : i.size=size) (hby : i.bytes=bytes) (hzs : z.cells.size=size) (hsz : 0 < size)
  (v : Value) (n : Nat) (xs : List Value) (hs : a.eval s=v) (hown : w.slackRow base e size v n xs)
  (ad : Addr) (m c : Nat) (news : List Value) (hx : a.eval x=.slice (some ad) m c) (hl : news.length=m * size) (hnews : ∀ j u,news[j]? = some u→w.cell? (ad.add j)=some u) (h1 : ∀ u∈news,u.oneCell'=true)
  (h63 : n+m≤maxLen) (hbytes : (n+m) * bytes≤140737488355328) (hbase : base≤w.heap.size)
  (h : ∀ v' w',w'.slackRow base e size v' (n+m) (xs++news)→w.grownBy w' v.ownBlock→True→(v'.ownBlock=v.ownBlock∨v'.ownBlock=some w.heap.size)→wpList P ops Q rest (a.put o.dst v') w') : wpList P ops Q (o :: rest) a w:=by
 refine wpList_plain hgd fun K hK=>?_
 obtain ⟨v',w',hr,h2,h3,_,h5⟩:=run_append_slack_at (P:=P) w base t o.type e i z size bytes ht hi hz hsize hby hzs hsz v n xs hown ad m c news hl hnews h1 h63 hbytes hbase
 unfold Oper.wp execOp
 simp only [ho,resolve,invoke,builtin,Sem.run_bind,Sem.run_pure,Result.andThen_ok,List.map_toArray,List.map_cons,List.map_nil,hs,hx,hr]
 exact hK _ _ (h v' w' h2 h3 trivial h5)
end
end Go
end
section
set_option linter.unusedVariables false
set_option linter.unusedSimpArgs false
namespace Go.Proofs.YtncdiodnbkhacaaDoorW.PrintWords
open Go.RowKit
structure Aside0 (p : Prop) : Prop where mk :: (out : p)
structure Drawn0 (w w' : World) : Prop where mk :: (out : ∃ n,w'=w.drewN n)
theorem Drawn0.refl (w : World) : Drawn0 w w:=⟨⟨0,rfl⟩⟩
theorem Drawn0.step {w w' : World} (h : Drawn0 w w') (n : Nat) : Drawn0 w (w'.drewN n):=by
 obtain ⟨m,rfl⟩:=h
 exact ⟨⟨m+n,World.drewN_drewN ..⟩⟩
theorem Drawn0.grown {w w' : World} (h : Drawn0 w w') : Grown w w':=by
 obtain ⟨n,rfl⟩:=h
 induction n with
|zero=>exact Grown.refl _
|succ n ih=>rw [← World.drew_drewN];exact Grown.drew ih
theorem Drawn0.below {w w' : World} (h : Drawn0 w w') : Below w.heap.size w w':=by
 obtain ⟨n,rfl⟩:=h
 induction n with
|zero=>exact Below.refl _ _
|succ n ih=>rw [← World.drew_drewN];exact ih.drew
def rd (xs : List Int) (i : Int) : Int:=xs.getD i.toNat 0
def bt (s : ByteArray) (i : Int) : Int:=if h : i.toNat < s.size then ((s[i.toNat]'h).toNat : Int) else 0
theorem bt_at (s : ByteArray) (i : Int) : ∀ h : i.toNat < s.size,((s[i.toNat]'h).toNat : Int)=bt s i:=fun h=>by simp [bt,h]
def nums (k : IntKind) (xs : List Int) : List Value:=xs.map fun x=>.int k x
theorem below_alloc {w W : World} (h : Below w.heap.size w W) (o : Obj) : Below w.heap.size w (W.alloc o):=h.alloc h.size o
theorem below_drew {B : Nat} {w W : World} (h : Below B w W) : Below B w W.drew:=⟨h.os,h.tape,h.output,h.size,h.block⟩
theorem pw_below_drewN {B : Nat} {w W : World} (h : Below B w W) (n : Nat) : Below B w (W.drewN n):=⟨h.os,h.tape,h.output,h.size,h.block⟩
theorem below_then {B : Nat} {w w1 w2 : World} (h : Below B w w1) (hB : B≤w1.heap.size) (k : Below w1.heap.size w1 w2) : Below B w w2 :=
 h.trans ⟨k.os,k.tape,k.output,k.size,fun i hi=>k.block i (Nat.lt_of_lt_of_le hi hB)⟩
theorem grown_of_below {w w1 : World} (h : Below w.heap.size w w1) (row : Option Nat) : w.grownBy w1 row:=⟨h.os,h.tape,h.output,h.size,fun i hi _=>h.block i hi⟩
theorem pw_cell_below {w w1 : World} (h : Below w.heap.size w w1) {a : Addr} {v : Value} (hc : w.cell? a=some v) : w1.cell? a=some v:=(h.cell (World.block_lt_of_cell? w a hc)).trans hc
theorem add_plain (g j : Nat) : (⟨g,0,none⟩ : Addr).add j=⟨g,j,none⟩:=by unfold Addr.add;split <;> simp_all
def ReadsInt (w : World) (k : IntKind) (A : Option Addr) (n : Nat) (xs : List Int) : Prop :=
 xs.length=n∧n≤9223372036854775807∧(0 < n → ∃ ad,A=some ad ∧ ∀ j,j < n→w.cell? (ad.add j)=some (.int k (xs.getD j 0)))
theorem ReadsInt.at_ {w : World} {k : IntKind} {A : Option Addr} {n : Nat} {xs : List Int} (h : ReadsInt w k A n xs) (i : Int) (h0 : 0≤i) (h1 : i < n) : ∃ ad,A=some ad∧w.cell? (ad.add i.toNat)=some (.int k (rd xs i)):=by
 obtain ⟨ad,e,hc⟩:=h.2.2 (by omega)
 exact ⟨ad,e,hc _ (by omega)⟩
theorem ReadsInt.below {w w1 : World} {k : IntKind} {A : Option Addr} {n : Nat} {xs : List Int} (h : ReadsInt w k A n xs) (hb : Below w.heap.size w w1) : ReadsInt w1 k A n xs :=
 ⟨h.1,h.2.1,fun hn=>by
  obtain ⟨ad,e,hc⟩:=h.2.2 hn
  exact ⟨ad,e,fun j hj=>pw_cell_below hb (hc j hj)⟩⟩
theorem own_nil (W : World) (base : Nat) (e : TypeId) (size : Nat) : W.slackRow base e size (.slice none 0 0) 0 []:=⟨by simp,.inl ⟨rfl,rfl⟩⟩
theorem own_base {w : World} {base : Nat} {e : TypeId} {size n : Nat} {v : Value} {xs : List Value} (h : w.slackRow base e size v n xs) (k : Nat) (hk : v.ownBlock=some k) : base≤k:=by
 rcases h.2 with ⟨rfl,_⟩|⟨g,cap,cur,rfl,hb,_⟩
 ·simp [Value.ownBlock] at hk
 ·have : g=k:=by simpa [Value.ownBlock] using hk
  omega
theorem own_lt {w : World} {base : Nat} {e : TypeId} {size n : Nat} {v : Value} {xs : List Value} (h : w.slackRow base e size v n xs) (k : Nat) (hk : v.ownBlock=some k) : k < w.heap.size:=by
 rcases h.2 with ⟨rfl,_⟩|⟨g,cap,cur,rfl,hb,hh,_⟩
 ·simp [Value.ownBlock] at hk
 ·have : g=k:=by simpa [Value.ownBlock] using hk
  subst this
  exact (Array.getElem?_eq_some_iff.1 hh).1
theorem pw_own_below {w w1 : World} {base : Nat} {e : TypeId} {size n : Nat} {v : Value} {xs : List Value} (h : w.slackRow base e size v n xs) (hb : Below w.heap.size w w1) : w1.slackRow base e size v n xs :=
 h.kept (grown_of_below hb none) (by cases v.ownBlock <;> simp)
theorem own_slice {w : World} {base n : Nat} {e : TypeId} {size : Nat} {v : Value} {xs : List Value} (h : w.slackRow base e size v n xs) : ∃ A c,v=.slice A n c:=by
 rcases h.2 with ⟨rfl,rfl⟩|⟨g,cap,cur,rfl,_⟩
 ·exact ⟨none,0,rfl⟩
 ·exact ⟨_,cap,rfl⟩
theorem ReadsInt.take_ {w : World} {k : IntKind} {A : Option Addr} {n : Nat} {xs : List Int} (h : ReadsInt w k A n xs) (i : Nat) (hi : i≤n) : ReadsInt w k A i (xs.take i):=by
 refine ⟨by rw [List.length_take,h.1];omega,by have:=h.2.1;omega,fun hp=>?_⟩
 obtain ⟨ad,e,hc⟩:=h.2.2 (by omega)
 refine ⟨ad,e,fun j hj=>?_⟩
 rw [hc j (by omega)]
 simp [List.getD_eq_getElem?_getD,hj]
def LeO {α : Type} (a b : Option α) : Prop:=∀ r,a=some r→b=some r
theorem LeO.refl {α : Type} (a : Option α) : LeO a a:=fun _ h=>h
theorem LeO.none {α : Type} (b : Option α) : LeO Option.none b:=fun _ h=>by cases h
theorem LeO.trans {α : Type} {a b c : Option α} (h : LeO a b) (k : LeO b c) : LeO a c:=fun r hr=>k r (h r hr)
theorem LeO.ite {α : Type} {c : Prop} [Decidable c] {a a' b b' : Option α} (h : LeO a a') (k : LeO b b') : LeO (if c then a else b) (if c then a' else b'):=by
 split
 ·exact h
 ·exact k
theorem LeO.bind {α β : Type} {a a' : Option α} {f f' : α→Option β} (h : LeO a a') (k : ∀ x,LeO (f x) (f' x)) : LeO (a.bind f) (a'.bind f'):=by
 intro r hr
 obtain ⟨x,hx,hf⟩:=Option.bind_eq_some_iff.1 hr
 exact Option.bind_eq_some_iff.2 ⟨x,h x hx,k x r hf⟩
theorem LeO.map {α β : Type} {a a' : Option α} (f : α→β) (h : LeO a a') : LeO (a.map f) (a'.map f):=by
 intro r hr
 obtain ⟨x,hx,hf⟩:=Option.map_eq_some_iff.1 hr
 exact Option.map_eq_some_iff.2 ⟨x,h x hx,hf⟩
theorem more_rounds {α : Type} {g : Nat→Option α} (h : ∀ k,LeO (g k) (g (k+1))) (k : Nat) : ∀ j,LeO (g k) (g (k+j))
|0=>LeO.refl _
|j+1=>(more_rounds h k j).trans (h (k+j))
theorem at_rounds {α : Type} {g : Nat→Option α} (h : ∀ k,LeO (g k) (g (k+1))) {k k' : Nat} (hk : k≤k') {r : α} (hr : g k=some r) : g k'=some r:=by
 have:=more_rounds h k (k' - k) r hr
 rwa [Nat.add_sub_cancel' hk] at this
def Reps {α : Type} (R : α→List Value→Prop) (size : Nat) (ps : List α) (cs : List Value) : Prop :=
 cs.length=ps.length * size ∧ ∀ j p,ps[j]? = some p→R p ((cs.drop (j * size)).take size)
theorem Reps.none {α : Type} (R : α→List Value→Prop) (size : Nat) : Reps R size [] []:=⟨by simp,fun j p h=>by simp at h⟩
theorem Reps.snoc {α : Type} {R : α→List Value→Prop} {size : Nat} {ps : List α} {cs c : List Value} {p : α} (h : Reps R size ps cs) (hp : R p c) (hc : c.length=size) : Reps R size (ps++[p]) (cs++c):=by
 refine ⟨by rw [List.length_append,h.1,hc,List.length_append,List.length_singleton,Nat.add_mul,Nat.one_mul],fun j q hq=>?_⟩
 rcases Nat.lt_or_ge j ps.length with hj|hj
 ·rw [List.getElem?_append_left hj] at hq
  have h1 : j * size+size≤cs.length:=by rw [h.1,← Nat.succ_mul];exact Nat.mul_le_mul_right _ hj
  have h2:=h.2 j q hq
  rw [List.drop_append_of_le_length (by omega),List.take_append_of_le_length (by rw [List.length_drop];omega)]
  exact h2
 ·have hj' : j=ps.length:=by
   have:=(List.getElem?_eq_some_iff.1 hq).1
   rw [List.length_append,List.length_singleton] at this
   omega
  subst hj'
  have hq' : p=q:=by simpa using hq
  subst hq'
  rw [← h.1,List.drop_left,← hc,List.take_length]
  exact hp
theorem Reps.imp_ {α : Type} {R R' : α→List Value→Prop} {size : Nat} {ps : List α} {cs : List Value} (h : Reps R size ps cs) (hR : ∀ p c,R p c→R' p c) : Reps R' size ps cs:=⟨h.1,fun j p hj=>hR _ _ (h.2 j p hj)⟩
def ReadsRow {α : Type} (R : α→List Value→Prop) (size : Nat) (w : World) (A : Option Addr) (n : Nat) (ps : List α) : Prop :=
 ps.length=n∧n≤9223372036854775807∧(0 < n → ∃ ad,A=some ad ∧ ∀ j p,ps[j]? = some p → ∃ c,c.length=size∧R p c ∧ ∀ i u,c[i]? = some u→w.cell? (ad.add (j * size+i))=some u)
theorem ReadsRow.get_ {α : Type} {R : α→List Value→Prop} {size : Nat} {w : World} {A : Option Addr} {n : Nat} {ps : List α} (h : ReadsRow R size w A n ps) (d : α) (i : Int) (h0 : 0≤i) (h1 : i < n) :
  ∃ ad c,A=some ad∧c.length=size∧R (ps.getD i.toNat d) c ∧ ∀ j u,c[j]? = some u→w.cell? (ad.add (i.toNat * size+j))=some u:=by
 obtain ⟨ad,e,hc⟩:=h.2.2 (by omega)
 have hl : i.toNat < ps.length:=by have:=h.1;omega
 obtain ⟨c,hs,hr,hcell⟩:=hc i.toNat _ (List.getElem?_eq_getElem hl)
 refine ⟨ad,c,e,hs,?_,hcell⟩
 rw [List.getD_eq_getElem?_getD,List.getElem?_eq_getElem hl]
 exact hr
theorem ReadsRow.imp_ {α : Type} {R R' : α→List Value→Prop} {size : Nat} {w w1 : World} {A : Option Addr} {n : Nat} {ps : List α} (h : ReadsRow R size w A n ps) (hb : Below w.heap.size w w1) (hR : ∀ p c,R p c→R' p c) : ReadsRow R' size w1 A n ps :=
 ⟨h.1,h.2.1,fun hn=>by
  obtain ⟨ad,e,hc⟩:=h.2.2 hn
  refine ⟨ad,e,fun j p hj=>?_⟩
  obtain ⟨c,hs,hr,hcell⟩:=hc j p hj
  exact ⟨c,hs,hR _ _ hr,fun i u hu=>pw_cell_below hb (hcell i u hu)⟩⟩
theorem own_reads_row {α : Type} {R : α→List Value→Prop} {w : World} {base n size : Nat} {e : TypeId} {v : Value} {ps : List α} {cs : List Value} (h : w.slackRow base e size v n cs) (hR : Reps R size ps cs) (hn : ps.length=n) :
  ∃ A c,v=.slice A n c∧ReadsRow R size w A n ps:=by
 rcases Nat.eq_zero_or_pos n with h0|h0
 ·rcases h.2 with ⟨rfl,rfl⟩|⟨g,cap,cur,rfl,_⟩
  ·exact ⟨none,0,rfl,hn,by omega,fun hp=>absurd hp (by omega)⟩
  ·exact ⟨_,cap,rfl,hn,by omega,fun hp=>absurd hp (by omega)⟩
 ·obtain ⟨g,cap,rfl,_,_⟩:=h.form h0
  have hm : n≤9223372036854775807:=by
   rcases h.2 with ⟨_,h1⟩|⟨g',cap',cur,he,_,_,h1,h2,_⟩
   ·omega
   ·simp only [maxLen] at h2
    omega
  refine ⟨_,cap,rfl,hn,hm,fun _=>⟨_,rfl,fun j p hj=>⟨(cs.drop (j * size)).take size,?_,hR.2 j p hj,fun i u hu=>?_⟩⟩⟩
  ·have hjl:=(List.getElem?_eq_some_iff.1 hj).1
   have h1 : j * size+size≤cs.length:=by rw [hR.1,← Nat.succ_mul];exact Nat.mul_le_mul_right _ hjl
   rw [List.length_take,List.length_drop]
   omega
  ·refine h.cells (g:=g) rfl _ u ?_
   rw [List.getElem?_take] at hu
   split at hu
   ·rw [List.getElem?_drop] at hu
    exact hu
   ·cases hu
theorem add_field (ad : Addr) (m j : Nat) (hj : 0 < j) : ad.add (m+j)=⟨(ad.add m).block,(ad.add m).off+j,none⟩:=by
 unfold Addr.add
 by_cases hm : m=0
 ·subst hm
  simp [Nat.ne_of_gt hj]
 ·simp [hm,Nat.add_assoc]
section
variable {P : Program} {ops : Array Oper} {rest : List Oper} {o : Oper} {a : Act} {Q : Exit→Act→World→Prop}
theorem print_append_cells {w0 W : World} (base : Nat) (hgd : o.guard=none) (s x : Operand) (t e : TypeId) (z : Value) (size bytes : Nat)
  (ho : o.op=.call { callee:=.builtin .append,args:=#[s,x],argTypes:=#[t,t] })
  (ht : P.underlying t=some (.slice e)) (hinfo : (P.info? e).map (fun i=>(i.zero,i.size,i.bytes))=some (some z,size,bytes)) (hz : z.cells.size=size) (hs0 : 0 < size) (hb0 : 0 < bytes)
  (v : Value) (n : Nat) (xs ys : List Value) (hs : a.eval s=v) (hx : a.eval x=.slice (some ⟨W.heap.size,0,none⟩) 1 1) (hys : ys.length=size) (h1 : ∀ u∈ys,u.oneCell'=true)
  (HO : W.slackRow base e size v n xs) (HB : Below base w0 W) (hbase : base≤W.heap.size) (hl : (n+1) * bytes≤140737488355328)
  (h : ∀ v1 w1,w1.slackRow base e size v1 (n+1) (xs++ys)→Below base w0 w1→W.grownBy w1 v.ownBlock→(v1.ownBlock=v.ownBlock ∨ ∃ b,v1.ownBlock=some b∧W.heap.size≤b)→wpList P ops Q rest (a.put o.dst v1) w1) :
  wpList P ops Q (o :: rest) a (W.alloc (.cells ys.toArray e)):=by
 obtain ⟨i0,hi,hzz⟩:=Option.map_eq_some_iff.1 hinfo
 simp only [Prod.mk.injEq] at hzz
 obtain ⟨hz0,hz1,hz2⟩:=hzz
 have hlen : n+1≤140737488355328:=Nat.le_trans (Nat.le_mul_of_pos_right _ hb0) hl
 refine wpList_append_slack_at (W.alloc (.cells ys.toArray e)) hgd s x t ho base e i0 z size bytes ht hi hz0 hz1 hz2 hz hs0 v n xs hs (HO.alloc _) ⟨W.heap.size,0,none⟩ 1 1 ys hx (by rw [hys];simp)
  (by simpa using World.news_of_block (cs:=ys.toArray) (t:=e) (fr:=(0,0)) (heap_alloc_new W (.cells ys.toArray e))) h1 (by simp only [maxLen];omega) hl (by simp;omega) ?_
 intro v1 w1 hown hg _ hat
 refine h v1 w1 hown ((HB.alloc hbase _).grown hg (by simp;omega) (own_base HO)) (World.grownBy.trans (World.grownBy_alloc W _ _) hg) ?_
 rcases hat with hat|hat
 ·exact .inl hat
 ·exact .inr ⟨_,hat,by simp⟩
end
theorem blk_set {w : World} {g : Nat} {t : TypeId} {cs : Array Value} (h : w.heap[g]? = some (.cells cs t (0,0))) (i : Nat) (u : Value) : (w.setCell ⟨g,i,none⟩ u).heap[g]? = some (.cells (cs.setIfInBounds i u) t (0,0)):=by
 simp [World.setCell,Array.getElem?_modify,h]
theorem blk_far {w : World} {g : Nat} {t : TypeId} {cs : Array Value} (h : w.heap[g]? = some (.cells cs t (0,0))) {p : Addr} (hp : g≠p.block) (u : Value) : (w.setCell p u).heap[g]? = some (.cells cs t (0,0)):=(Below.heap_setCell w p u g hp).trans h
theorem blk_lt {w : World} {g : Nat} {o : Obj} (h : w.heap[g]? = some o) : g < w.heap.size:=(Array.getElem?_eq_some_iff.1 h).1
theorem blk_cell {w : World} {g : Nat} {t : TypeId} {cs : Array Value} (h : w.heap[g]? = some (.cells cs t (0,0))) (i : Nat) : w.cell? ⟨g,i,none⟩=cs[i]?:=cell_of_row w g i cs t (0,0) h
theorem blk_frozen {w : World} {g : Nat} {t : TypeId} {cs : Array Value} (h : w.heap[g]? = some (.cells cs t (0,0))) (i : Nat) : w.frozen? ⟨g,i,none⟩=false:=by simp [World.frozen?,h]
def KeepBut (w w' : World) (g : Nat) (row : Option Nat) : Prop:=w.heap.size≤w'.heap.size ∧ ∀ i,i < w.heap.size→i≠g→some i≠row→w'.heap[i]? = w.heap[i]?
theorem KeepBut.refl (w : World) (g : Nat) (row : Option Nat) : KeepBut w w g row:=⟨Nat.le_refl _,fun _ _ _ _=>rfl⟩
theorem KeepBut.of_grown {w w1 : World} {row : Option Nat} (h : w.grownBy w1 row) (g : Nat) : KeepBut w w1 g row:=⟨h.size,fun i hi _ hr=>h.block i hi hr⟩
theorem KeepBut.of_below {w w1 : World} (h : Below w.heap.size w w1) (g : Nat) (row : Option Nat) : KeepBut w w1 g row:=⟨h.size,fun i hi _ _=>h.block i hi⟩
theorem KeepBut.trans {w w1 w2 : World} {g : Nat} {row row1 : Option Nat} (h : KeepBut w w1 g row) (k : KeepBut w1 w2 g row1) (hr : row1=row ∨ ∃ b,row1=some b∧w.heap.size≤b) : KeepBut w w2 g row :=
 ⟨Nat.le_trans h.1 k.1,fun i hi hg hn=>by
  refine (k.2 i (Nat.lt_of_lt_of_le hi h.1) hg ?_).trans (h.2 i hi hg hn)
  rcases hr with rfl|⟨b,rfl,hb⟩
  ·exact hn
  ·intro e
   injection e with e
   omega⟩
theorem KeepBut.blk {w w1 : World} {g g' : Nat} {row : Option Nat} {o : Obj} (h : KeepBut w w1 g row) (hb : w.heap[g']? = some o) (hg : g'≠g) (hr : some g'≠row) : w1.heap[g']? = some o:=(h.2 g' (blk_lt hb) hg hr).trans hb
theorem KeepBut.own {w w1 : World} {g : Nat} {row : Option Nat} {base : Nat} {e : TypeId} {size n : Nat} {v : Value} {xs : List Value} (h : KeepBut w w1 g row) (ho : w.slackRow base e size v n xs) (hg : v.ownBlock≠some g) (hr : v.ownBlock=none∨v.ownBlock≠row) : w1.slackRow base e size v n xs:=by
 obtain ⟨h1,h2⟩:=ho
 refine ⟨h1,?_⟩
 rcases h2 with h2|⟨b,cap,cur,rfl,hb,hh,r⟩
 ·exact .inl h2
 ·refine .inr ⟨b,cap,cur,rfl,hb,h.blk hh ?_ ?_,r⟩
  ·intro e
   exact hg (by rw [← e];rfl)
  ·rcases hr with hr|hr
   ·simp [Value.ownBlock] at hr
   ·exact hr
def Ev {α : Type} (g : Nat→Option α) (r : α) : Prop:=∃ K,∀ k,K≤k→g k=some r
theorem Ev.of {α : Type} {g : Nat→Option α} {r : α} (hg : ∀ k,LeO (g k) (g (k+1))) {k : Nat} (h : g k=some r) : Ev g r:=⟨k,fun _ hk=>at_rounds hg hk h⟩
theorem Ev.now {α : Type} (r : α) : Ev (fun _=>some r) r:=⟨0,fun _ _=>rfl⟩
theorem Ev.bind {α β : Type} {g : Nat→Option α} {f : Nat→α→Option β} {a : α} {r : β} (h : Ev g a) (k : Ev (fun n=>f n a) r) : Ev (fun n=>(g n).bind (f n)) r:=by
 obtain ⟨K,h⟩:=h
 obtain ⟨K',k⟩:=k
 refine ⟨max K K',fun n hn=>?_⟩
 have h1:=h n (by omega)
 have h2:=k n (by omega)
 simp only [h1,Option.bind_some]
 exact h2
theorem Ev.step {α : Type} {g f : Nat→Option α} {r : α} (h : ∀ k,g (k+1)=f k) (k : Ev f r) : Ev g r:=by
 obtain ⟨K,k⟩:=k
 refine ⟨K+1,fun n hn=>?_⟩
 obtain ⟨m,rfl⟩ : ∃ m,n=m+1:=⟨n - 1,by omega⟩
 rw [h]
 exact k m (by omega)
theorem Ev.congr {α : Type} {g f : Nat→Option α} {r : α} (h : ∀ k,g k=f k) (k : Ev f r) : Ev g r:=by
 obtain ⟨K,k⟩:=k
 exact ⟨K,fun n hn=>(h n).trans (k n hn)⟩
section
variable {P : Program} {ops : Array Oper} {o : Oper} {a : Act} {Q : Exit→Act→World→Prop} {K : Act→World→Prop}
theorem step_append_cells {w0 W : World} (base : Nat) (hw : Region.wanted o (yielded ops a.tmps)=true) (s x : Operand) (t e : TypeId) (z : Value) (size bytes : Nat)
  (ho : o.op=.call { callee:=.builtin .append,args:=#[s,x],argTypes:=#[t,t] })
  (ht : P.underlying t=some (.slice e)) (hinfo : (P.info? e).map (fun i=>(i.zero,i.size,i.bytes))=some (some z,size,bytes)) (hz : z.cells.size=size) (hs0 : 0 < size) (hb0 : 0 < bytes)
  (v : Value) (n : Nat) (xs ys : List Value) (hs : a.eval s=v) (hx : a.eval x=.slice (some ⟨W.heap.size,0,none⟩) 1 1) (hys : ys.length=size) (h1 : ∀ u∈ys,u.oneCell'=true)
  (HO : W.slackRow base e size v n xs) (HB : Below base w0 W) (hbase : base≤W.heap.size) (hl : (n+1) * bytes≤140737488355328)
  (h : ∀ v1 w1,w1.slackRow base e size v1 (n+1) (xs++ys)→Below base w0 w1→W.grownBy w1 v.ownBlock→(v1.ownBlock=v.ownBlock ∨ ∃ b,v1.ownBlock=some b∧W.heap.size≤b)→K (a.put o.dst v1) w1) :
  if Region.wanted o (yielded ops a.tmps)=true then Oper.wp P o a (W.alloc (.cells ys.toArray e)) K Q else K (a.put o.dst undef) (W.alloc (.cells ys.toArray e)):=by
 obtain ⟨i0,hi,hzz⟩:=Option.map_eq_some_iff.1 hinfo
 simp only [Prod.mk.injEq] at hzz
 obtain ⟨hz0,hz1,hz2⟩:=hzz
 have hlen : n+1≤140737488355328:=Nat.le_trans (Nat.le_mul_of_pos_right _ hb0) hl
 rw [if_pos hw]
 obtain ⟨v1,w1,hr,hown,hg,_,hat⟩:=run_append_slack_at (P:=P) (W.alloc (.cells ys.toArray e)) base t o.type e i0 z size bytes ht hi hz0 hz1 hz2 hz hs0 v n xs (HO.alloc _) ⟨W.heap.size,0,none⟩ 1 1 ys (by rw [hys];simp)
  (by simpa using World.news_of_block (cs:=ys.toArray) (t:=e) (fr:=(0,0)) (heap_alloc_new W (.cells ys.toArray e))) h1 (by simp only [maxLen];omega) hl (by simp;omega)
 unfold Oper.wp execOp
 simp only [ho,resolve,invoke,builtin,Sem.run_bind,Sem.run_pure,Result.andThen_ok,List.map_toArray,List.map_cons,List.map_nil,hs,hx,hr]
 refine h v1 w1 hown ((HB.alloc hbase _).grown hg (by simp;omega) (own_base HO)) (World.grownBy.trans (World.grownBy_alloc W _ _) hg) ?_
 rcases hat with hat|hat
 ·exact .inl hat
 ·exact .inr ⟨_,hat,by simp⟩
end
theorem own_weaken {w : World} {base base' : Nat} {e : TypeId} {size n : Nat} {v : Value} {xs : List Value} (h : w.slackRow base e size v n xs) (hb : base'≤base) : w.slackRow base' e size v n xs:=by
 obtain ⟨h1,h2⟩:=h
 refine ⟨h1,?_⟩
 rcases h2 with h2|⟨g,cap,cur,rfl,hg,r⟩
 ·exact .inl h2
 ·exact .inr ⟨g,cap,cur,rfl,Nat.le_trans hb hg,r⟩
section
variable {α : Type} {enc : α→Value} {d : α}
def encs (enc : α→Value) (xs : List α) : List Value:=xs.map enc
def rdOf (d : α) (xs : List α) (i : Int) : α:=xs.getD i.toNat d
theorem encs_length (xs : List α) : (encs enc xs).length=xs.length:=by simp [encs]
theorem encs_get (xs : List α) (j : Nat) (h : j < xs.length) : (encs enc xs)[j]? = some (enc (xs.getD j d)):=by
 simp [encs,List.getElem?_eq_getElem h,List.getD_eq_getElem?_getD]
def ReadsOf (enc : α→Value) (d : α) (w : World) (A : Option Addr) (n : Nat) (xs : List α) : Prop :=
 xs.length=n∧n≤9223372036854775807∧(0 < n → ∃ ad,A=some ad ∧ ∀ j,j < n→w.cell? (ad.add j)=some (enc (xs.getD j d)))
theorem ReadsOf.at_ {w : World} {A : Option Addr} {n : Nat} {xs : List α} (h : ReadsOf enc d w A n xs) (i : Int) (h0 : 0≤i) (h1 : i < n) : ∃ ad,A=some ad∧w.cell? (ad.add i.toNat)=some (enc (rdOf d xs i)):=by
 obtain ⟨ad,e,hc⟩:=h.2.2 (by omega)
 exact ⟨ad,e,hc _ (by omega)⟩
theorem ReadsOf.below {w w1 : World} {A : Option Addr} {n : Nat} {xs : List α} (h : ReadsOf enc d w A n xs) (hb : Below w.heap.size w w1) : ReadsOf enc d w1 A n xs :=
 ⟨h.1,h.2.1,fun hn=>by
  obtain ⟨ad,e,hc⟩:=h.2.2 hn
  exact ⟨ad,e,fun j hj=>pw_cell_below hb (hc j hj)⟩⟩
theorem ReadsOf.take_ {w : World} {A : Option Addr} {n : Nat} {xs : List α} (h : ReadsOf enc d w A n xs) (i : Nat) (hi : i≤n) : ReadsOf enc d w A i (xs.take i):=by
 refine ⟨by rw [List.length_take,h.1];omega,by have:=h.2.1;omega,fun hp=>?_⟩
 obtain ⟨ad,e,hc⟩:=h.2.2 (by omega)
 refine ⟨ad,e,fun j hj=>?_⟩
 rw [hc j (by omega)]
 simp [List.getD_eq_getElem?_getD,hj]
theorem own_at_of {W : World} {base g n cap : Nat} {e : TypeId} {xs : List α} (h : W.slackRow base e 1 (.slice (some ⟨g,0,none⟩) n cap) n (encs enc xs)) (i : Int) (h0 : 0≤i) (h1 : i < n) :
  W.cell? ⟨g,i.toNat,none⟩=some (enc (rdOf d xs i))∧W.frozen? ⟨g,i.toNat,none⟩=false:=by
 have hl : xs.length=n:=by have:=h.1;simp [encs] at this;exact this
 constructor
 ·have hc:=h.cells (g:=g) rfl i.toNat _ (encs_get (d:=d) xs i.toNat (by omega))
  rwa [add_plain] at hc
 ·rcases h.2 with ⟨h',_⟩|⟨g',cap',cur,h',_,hh,_⟩
  ·cases h'
  ·have : g=g':=by injection h' with h';injection h' with h';injection h' with h'
   subst this
   simp [World.frozen?,hh]
theorem own_store_of {W : World} {base g n cap : Nat} {e : TypeId} {xs : List α} (h : W.slackRow base e 1 (.slice (some ⟨g,0,none⟩) n cap) n (encs enc xs)) (i : Int) (x : α) :
  (W.setCell ⟨g,i.toNat,none⟩ (enc x)).slackRow base e 1 (.slice (some ⟨g,0,none⟩) n cap) n (encs enc (xs.set i.toNat x))∧W.grownBy (W.setCell ⟨g,i.toNat,none⟩ (enc x)) (some g):=by
 have hs:=h.stored i.toNat (enc x)
 have he : (encs enc xs).set i.toNat (enc x)=encs enc (xs.set i.toNat x):=by simp [encs,List.map_set]
 rwa [he] at hs
end
theorem blk_alloc {w : World} {g : Nat} {o : Obj} (h : w.heap[g]? = some o) (o' : Obj) : (w.alloc o').heap[g]? = some o:=(Below.heap_alloc w o' g (blk_lt h)).trans h
theorem blk_drew {w : World} {g : Nat} {o : Obj} (h : w.heap[g]? = some o) : w.drew.heap[g]? = some o:=h
theorem blk_drewN {w : World} {g : Nat} {o : Obj} (h : w.heap[g]? = some o) (n : Nat) : (w.drewN n).heap[g]? = some o:=h
theorem blk_below {w w1 : World} {g : Nat} {o : Obj} (h : w.heap[g]? = some o) (hb : Below w.heap.size w w1) : w1.heap[g]? = some o:=(hb.block g (blk_lt h)).trans h
theorem blk_new (w : World) (o : Obj) : (w.alloc o).heap[w.heap.size]? = some o:=heap_alloc_new w o
section
variable {P : Program}
theorem results_ct {fn : Func} {p u : Tmp} {ty : TypeId} (h : fn.results=#[.cell p ty,.tmp u]) (tmps : Array Value) (w : World) (g : Nat) (t : TypeId) (cs : Array Value) (fr : Nat × Nat) (d : TypeDesc)
  (hp : tmps.getD p undef=.pointer (some ⟨g,0,none⟩)) (hg : w.heap[g]? = some (.cells cs t fr))
  (hu : P.underlying ty=some d) (hd : (match d with|.struct _|.array _ _=>true|_=>false)=true) (hi : (P.info? ty).map (·.size)=some cs.size) :
  (results fn tmps).run P w=.ok (.tuple #[.agg cs,tmps.getD u undef]) w:=by
 have hp' : tmps[p]?.getD undef=.pointer (some ⟨g,0,none⟩):=by simpa using hp
 simp [results,h,hp',asAddr,run_loadVar_row w g t ty cs fr d hg hu hd hi]
end
theorem own_le {w : World} {base n m c size : Nat} {e : TypeId} {A : Option Addr} {xs : List Value} (h : w.slackRow base e size (.slice A m c) n xs) : m≤c:=by
 rcases h.2 with ⟨he,_⟩|⟨g,cap,cur,he,_,_,hnc,_⟩
 ·injection he with _ h2 h3
  omega
 ·injection he with _ h2 h3
  omega
def OwnRow {α : Type} (R : α→List Value→Prop) (e : TypeId) (size : Nat) (w : World) (base : Nat) (v : Value) (ps : List α) : Prop :=
 ∃ inner,w.slackRow base e size v ps.length inner∧Reps R size ps inner
section
variable {α : Type} {R R' : α→List Value→Prop} {e : TypeId} {size : Nat} {w w1 : World} {base : Nat} {v : Value} {ps : List α}
theorem OwnRow.none_ (R : α→List Value→Prop) (e : TypeId) (size : Nat) (w : World) (base : Nat) : OwnRow R e size w base (.slice none 0 0) []:=⟨[],own_nil _ _ _ _,Reps.none _ _⟩
theorem OwnRow.imp_ (h : OwnRow R e size w base v ps) (hR : ∀ p c,R p c→R' p c) : OwnRow R' e size w base v ps:=by
 obtain ⟨inner,ho,hr⟩:=h
 exact ⟨inner,ho,hr.imp_ hR⟩
theorem OwnRow.below (h : OwnRow R e size w base v ps) (hb : Below w.heap.size w w1) : OwnRow R e size w1 base v ps:=by
 obtain ⟨inner,ho,hr⟩:=h
 exact ⟨inner,pw_own_below ho hb,hr⟩
theorem OwnRow.reads (h : OwnRow R e size w base v ps) : ∃ A c,v=.slice A ps.length c∧ps.length≤c∧ReadsRow R size w A ps.length ps:=by
 obtain ⟨inner,ho,hr⟩:=h
 obtain ⟨A,c,rfl,hrow⟩:=own_reads_row ho hr rfl
 exact ⟨A,c,rfl,own_le ho,hrow⟩
theorem OwnRow.lit (W : World) (base : Nat) {inner : List Value} (hr : Reps R size ps inner) (hb : base≤W.heap.size) (hm : ps.length≤9223372036854775807) :
  OwnRow R e size (W.alloc (.cells inner.toArray e)) base (.slice (some ⟨W.heap.size,0,none⟩) ps.length ps.length) ps:=by
 have h:=World.slackRow_lit (base:=base) (e:=e) (size:=size) W inner.toArray ps.length hb (by simpa [maxLen] using hm) (by simpa using hr.1)
 exact ⟨inner,by simpa using h,hr⟩
end
section
variable {P : Program} {ops : Array Oper} {rest : List Oper} {o : Oper} {a : Act} {Q : Exit→Act→World→Prop} {α : Type} {R : α→List Value→Prop}
theorem OwnRow.append {w0 W : World} (base : Nat) (hgd : o.guard=none) (s x : Operand) (t e : TypeId) (z : Value) (size bytes : Nat)
  (ho : o.op=.call { callee:=.builtin .append,args:=#[s,x],argTypes:=#[t,t] })
  (ht : P.underlying t=some (.slice e)) (hinfo : (P.info? e).map (fun i=>(i.zero,i.size,i.bytes))=some (some z,size,bytes)) (hz : z.cells.size=size) (hs0 : 0 < size) (hb0 : 0 < bytes)
  (v : Value) (ps : List α) (p : α) (cs : List Value) (hs : a.eval s=v) (hx : a.eval x=.slice (some ⟨W.heap.size,0,none⟩) 1 1) (hp : R p cs) (hcs : cs.length=size) (h1 : ∀ u∈cs,u.oneCell'=true)
  (HO : OwnRow R e size W base v ps) (HB : Below base w0 W) (hbase : base≤W.heap.size) (hl : (ps.length+1) * bytes≤140737488355328)
  (h : ∀ v1 w1,OwnRow R e size w1 base v1 (ps++[p])→Below base w0 w1→W.grownBy w1 v.ownBlock→(v1.ownBlock=v.ownBlock ∨ ∃ b,v1.ownBlock=some b∧W.heap.size≤b)→wpList P ops Q rest (a.put o.dst v1) w1) :
  wpList P ops Q (o :: rest) a (W.alloc (.cells cs.toArray e)):=by
 obtain ⟨inner,hown,hr⟩:=HO
 refine print_append_cells base hgd s x t e z size bytes ho ht hinfo hz hs0 hb0 v ps.length inner cs hs hx hcs h1 hown HB hbase hl ?_
 intro v1 w1 hown1 hb1 hg1 hat1
 exact h v1 w1 ⟨inner++cs,by rw [List.length_append,List.length_singleton];exact hown1,hr.snoc hp hcs⟩ hb1 hg1 hat1
end
theorem ReadsRow.inner_ {α : Type} {R : α→List Value→Prop} {size : Nat} {w : World} {ad : Addr} {n : Nat} {ps : List α} (h : ReadsRow R size w (some ad) n ps) :
  ∃ inner,Reps R size ps inner ∧ ∀ j u,inner[j]? = some u→w.cell? (ad.add j)=some u:=by
 have key : ∀ m,m≤ps.length → ∃ inner,Reps R size (ps.take m) inner ∧ ∀ j u,inner[j]? = some u→w.cell? (ad.add j)=some u:=by
  intro m
  induction m with
 |zero=>exact fun _=>⟨[],Reps.none _ _,fun j u hu=>by simp at hu⟩
 |succ m ih =>
   intro hm
   obtain ⟨inner,hr,hc⟩:=ih (by omega)
   obtain ⟨ad',he,hcell⟩:=h.2.2 (by have:=h.1;omega)
   injection he with he
   subst he
   obtain ⟨c,hcl,hp,hcc⟩:=hcell m _ (List.getElem?_eq_getElem (show m < ps.length by omega))
   refine ⟨inner++c,?_,fun j u hu=>?_⟩
   ·rw [List.take_succ_eq_append_getElem (show m < ps.length by omega)]
    exact hr.snoc hp hcl
   ·have hil : inner.length=m * size:=by rw [hr.1,List.length_take,Nat.min_eq_left (by omega)]
    rcases Nat.lt_or_ge j inner.length with hj|hj
    ·rw [List.getElem?_append_left hj] at hu
     exact hc j u hu
    ·rw [List.getElem?_append_right hj] at hu
     have:=hcc (j - inner.length) u hu
     rwa [hil,Nat.add_sub_cancel' (by omega)] at this
 obtain ⟨inner,hr,hc⟩:=key ps.length (Nat.le_refl _)
 rw [List.take_length] at hr
 exact ⟨inner,hr,hc⟩
section
variable {α : Type} {P : Program}
theorem print_take_of (enc : α→Value) (d : α) (t e : TypeId) (kl : IntKind) {i : TypeInfo} (ht : P.underlying t=some (.slice e)) (hi : P.info? e=some i) (hsz : i.size=1) (A : Option Addr) (c : Nat) (xs : List α) (j : Int) (h0 : 0≤j) (hm : j≤xs.length) (hc : xs.length≤c) :
  (∀ W : World,(Instr.slice t (.slice A xs.length c) none (some (.int kl j)) none).run P W=.ok (.slice A (xs.take j.toNat).length c) W) ∧
   (∀ w : World,ReadsOf enc d w A xs.length xs→ReadsOf enc d w A (xs.take j.toNat).length (xs.take j.toNat))∧(xs.take j.toNat).length≤c:=by
 have hl : (xs.take j.toNat).length=j.toNat:=by rw [List.length_take];omega
 refine ⟨fun W=>?_,fun w h=>by rw [hl];exact h.take_ j.toNat (by omega),by rw [hl];omega⟩
 have hel : P.elem t=e:=by simp [Program.elem,ht]
 have hu : P.underlying t=some (.slice (P.elem t)):=by rw [hel];exact ht
 have ha : (A.map fun x=>x.add 0)=A:=by cases A <;> simp [Addr.add]
 rw [run_slice_h W t A xs.length c hu kl j h0 (by omega),hel,hl]
 simp [sizeOf,typeInfo,hi,hsz,sliced,Result.andThen,ha]
end
structure Kd (α : Type) where
 sz : Nat
 E : List Nat
 K : World→α→List Value→Prop
 M : World→Nat→(Nat→Prop)→α→List Value→Prop
 K_len : ∀ {w x cs},K w x cs→cs.length=sz
 K_one : ∀ {w x cs},K w x cs → ∀ u∈cs,u.oneCell'=true
 K_below : ∀ {w w1 : World} {x cs},Below w.heap.size w w1→K w x cs→K w1 x cs
 K_of_M : ∀ {w base ok x cs},M w base ok x cs→K w x cs
 M_mono : ∀ {w base ok ok' x cs},(∀ k,ok k→ok' k)→M w base ok x cs→M w base ok' x cs
 M_bound : ∀ {w : World} {base ok x cs},M w base ok x cs→M w base (fun k=>ok k∧base≤k∧k < w.heap.size ∧ ∃ q,q∈E ∧ ∃ cells,w.heap[k]? = some (.cells cells q (0,0))) x cs
 M_move : ∀ {w w1 : World} {base ok x cs},(∀ k,ok k→w1.heap[k]? = w.heap[k]?)→M w base ok x cs→M w1 base ok x cs
 M_lower : ∀ {w base base' ok x cs},base'≤base→M w base ok x cs→M w base' ok x cs
theorem own_move {w w1 : World} {base : Nat} {e : TypeId} {size n : Nat} {v : Value} {xs : List Value} (h : w.slackRow base e size v n xs) (hm : ∀ k,v.ownBlock=some k→w1.heap[k]? = w.heap[k]?) : w1.slackRow base e size v n xs:=by
 obtain ⟨h1,h2⟩:=h
 refine ⟨h1,?_⟩
 rcases h2 with h2|⟨g,cap,cur,rfl,hg,hh,r⟩
 ·exact .inl h2
 ·exact .inr ⟨g,cap,cur,rfl,hg,(hm g (by simp [Value.ownBlock])).trans hh,r⟩
theorem own_typed {w : World} {base : Nat} {e : TypeId} {size n : Nat} {v : Value} {xs : List Value} (h : w.slackRow base e size v n xs) (k : Nat) (hk : v.ownBlock=some k) : ∃ cells,w.heap[k]? = some (.cells cells e (0,0)):=by
 rcases h.2 with ⟨rfl,_⟩|⟨g,cap,cur,rfl,hg,hh,r⟩
 ·simp [Value.ownBlock] at hk
 ·have : g=k:=by simpa [Value.ownBlock] using hk
  subst this
  exact ⟨cur,hh⟩
namespace Kd
def C {α : Type} (d : Kd α) (w : World) (A : Option Addr) (n : Nat) (xs : List α) : Prop:=ReadsRow (d.K w) d.sz w A n xs
def R {α : Type} (d : Kd α) (e : Nat) (w : World) (base : Nat) (ok : Nat→Prop) (v : Value) (xs : List α) : Prop :=
 (∀ k,v.ownBlock=some k→ok k)∧OwnRow (d.M w base (fun k=>ok k∧some k≠v.ownBlock)) e d.sz w base v xs
section
variable {α : Type} {d : Kd α} {e : Nat} {w w1 : World} {base : Nat} {ok ok' : Nat→Prop} {v : Value} {xs : List α}
theorem C_below {A : Option Addr} {n : Nat} (h : d.C w A n xs) (hb : Below w.heap.size w w1) : d.C w1 A n xs:=ReadsRow.imp_ h hb (fun _ _ hp=>d.K_below hb hp)
theorem R_nil (d : Kd α) (e : Nat) (w : World) (base : Nat) (ok : Nat→Prop) : d.R e w base ok (.slice none 0 0) []:=⟨fun k hk=>by simp [Value.ownBlock] at hk,OwnRow.none_ _ _ _ _ _⟩
theorem R_mono (h : d.R e w base ok v xs) (hok : ∀ k,ok k→ok' k) : d.R e w base ok' v xs:=⟨fun k hk=>hok k (h.1 k hk),h.2.imp_ (fun _ _ hp=>d.M_mono (fun k hk=>⟨hok k hk.1,hk.2⟩) hp)⟩
theorem R_bound (h : d.R e w base ok v xs) : d.R e w base (fun k=>ok k∧base≤k∧k < w.heap.size ∧ ∃ q,q∈e :: d.E ∧ ∃ cells,w.heap[k]? = some (.cells cells q (0,0))) v xs:=by
 obtain ⟨h0,inner,ho,hr⟩:=h
 refine ⟨fun k hk=>?_,inner,ho,hr.imp_ (fun _ _ hp=>d.M_mono (fun k hk=>?_) (d.M_bound hp))⟩
 ·obtain ⟨cells,hc⟩:=own_typed ho k hk
  exact ⟨h0 k hk,own_base ho k hk,own_lt ho k hk,e,List.mem_cons_self,cells,hc⟩
 ·obtain ⟨⟨h1,h2⟩,h3,h4,q,hq,hc⟩:=hk
  exact ⟨⟨h1,h3,h4,q,List.mem_cons_of_mem _ hq,hc⟩,h2⟩
theorem R_move (h : d.R e w base ok v xs) (hm : ∀ k,ok k→w1.heap[k]? = w.heap[k]?) : d.R e w1 base ok v xs:=by
 obtain ⟨h0,inner,ho,hr⟩:=h
 exact ⟨h0,inner,own_move ho (fun k hk=>hm k (h0 k hk)),hr.imp_ (fun _ _ hp=>d.M_move (fun k hk=>hm k hk.1) hp)⟩
theorem R_lower {base' : Nat} (h : d.R e w base ok v xs) (hb : base'≤base) : d.R e w base' ok v xs:=by
 obtain ⟨h0,inner,ho,hr⟩:=h
 exact ⟨h0,inner,own_weaken ho hb,hr.imp_ (fun _ _ hp=>d.M_lower hb hp)⟩
theorem R_step (h : d.R e w base ok v xs) (hm : ∀ k,ok k→k < w.heap.size→w1.heap[k]? = w.heap[k]?) : d.R e w1 base ok v xs :=
 R_mono (R_move (R_bound h) (fun k hk=>hm k hk.1 hk.2.2.1)) (fun _ hk=>hk.1)
theorem M_step {x : α} {cs : List Value} (h : d.M w base ok x cs) (hm : ∀ k,ok k→k < w.heap.size→w1.heap[k]? = w.heap[k]?) : d.M w1 base ok x cs :=
 d.M_mono (fun _ hk=>hk.1) (d.M_move (fun k hk=>hm k hk.1 hk.2.2.1) (d.M_bound h))
theorem R_below (h : d.R e w base ok v xs) (hb : Below w.heap.size w w1) : d.R e w1 base ok v xs:=R_step h (fun k _ hk=>hb.block k hk)
theorem M_below {x : α} {cs : List Value} (h : d.M w base ok x cs) (hb : Below w.heap.size w w1) : d.M w1 base ok x cs:=M_step h (fun k _ hk=>hb.block k hk)
theorem R_far (h : d.R e w base ok v xs) {p : Addr} (hok : ∀ k,ok k→k≠p.block) (u : Value) : d.R e (w.setCell p u) base ok v xs:=R_step h (fun k ho _=>Below.heap_setCell w p u k (hok k ho))
theorem R_types (h : d.R e w base ok v xs) {g t : Nat} {cells : Array Value} (hb : w.heap[g]? = some (.cells cells t (0,0))) (ht : ∀ q,q∈e :: d.E→q≠t) : d.R e w base (fun k=>ok k∧k≠g) v xs :=
 R_mono (R_bound h) (fun k hk=>⟨hk.1,by
  obtain ⟨_,_,_,q,hq,cells',hc⟩:=hk
  rintro rfl
  rw [hc] at hb
  injection hb with hb
  injection hb with _ hb
  exact ht q hq hb⟩)
theorem R_reads (h : d.R e w base ok v xs) : ∃ A c,v=.slice A xs.length c∧xs.length≤c∧d.C w A xs.length xs:=by
 obtain ⟨A,c,he,hl,hr⟩:=OwnRow.reads h.2
 exact ⟨A,c,he,hl,hr.imp_ (Below.refl _ _) (fun _ _ hp=>d.K_of_M hp)⟩
theorem R_slice (h : d.R e w base ok v xs) : ∃ A c,v=.slice A xs.length c:=by
 obtain ⟨A,c,he,_⟩:=R_reads h
 exact ⟨A,c,he⟩
theorem R_own (h : d.R e w base ok v xs) : ∃ inner,w.slackRow base e d.sz v xs.length inner:=by
 obtain ⟨_,inner,ho,_⟩:=h
 exact ⟨inner,ho⟩
end
def scalar {α : Type} (enc : α→Value) (h1 : ∀ x,(enc x).oneCell'=true) : Kd α where
 sz:=1
 E:=[]
 K:=fun _ x cs=>cs=[enc x]
 M:=fun _ _ _ x cs=>cs=[enc x]
 K_len:=fun h=>by rw [h];rfl
 K_one:=fun h u hu=>by
  rw [h] at hu
  rw [List.mem_singleton.1 hu]
  exact h1 _
 K_below:=fun _ h=>h
 K_of_M:=fun h=>h
 M_mono:=fun _ h=>h
 M_bound:=fun h=>h
 M_move:=fun _ h=>h
 M_lower:=fun _ h=>h
def int (k : IntKind) : Kd Int:=scalar (Value.int k) (fun _=>rfl)
def bool : Kd Bool:=scalar Value.bool (fun _=>rfl)
def string : Kd ByteArray:=scalar Value.string (fun _=>rfl)
def slice {α : Type} (e : Nat) (d : Kd α) : Kd (List α) where
 sz:=1
 E:=e :: d.E
 K:=fun w xs cs=>∃ A c,cs=[.slice A xs.length c]∧xs.length≤c∧d.C w A xs.length xs
 M:=fun w base ok xs cs=>∃ v,cs=[v]∧d.R e w base ok v xs
 K_len:=by
  rintro w x cs ⟨A,c,rfl,_⟩
  rfl
 K_one:=by
  rintro w x cs ⟨A,c,rfl,_⟩ u hu
  rw [List.mem_singleton.1 hu]
  rfl
 K_below:=by
  rintro w w1 x cs hb ⟨A,c,rfl,hl,hr⟩
  exact ⟨A,c,rfl,hl,C_below hr hb⟩
 K_of_M:=by
  rintro w base ok x cs ⟨v,rfl,h⟩
  obtain ⟨A,c,rfl,hl,hr⟩:=R_reads h
  exact ⟨A,c,rfl,hl,hr⟩
 M_mono:=by
  rintro w base ok ok' x cs hok ⟨v,rfl,h⟩
  exact ⟨v,rfl,R_mono h hok⟩
 M_bound:=by
  rintro w base ok x cs ⟨v,rfl,h⟩
  exact ⟨v,rfl,R_bound h⟩
 M_move:=by
  rintro w w1 base ok x cs hm ⟨v,rfl,h⟩
  exact ⟨v,rfl,R_move h hm⟩
 M_lower:=by
  rintro w base base' ok x cs hb ⟨v,rfl,h⟩
  exact ⟨v,rfl,R_lower h hb⟩
def pair {α β : Type} (a : Kd α) (b : Kd β) : Kd (α × β) where
 sz:=a.sz+b.sz
 E:=a.E++b.E
 K:=fun w x cs=>∃ c0 c1,cs=c0++c1∧a.K w x.1 c0∧b.K w x.2 c1
 M:=fun w base ok x cs=>∃ c0 c1,cs=c0++c1∧a.M w base ok x.1 c0∧b.M w base ok x.2 c1
 K_len:=by
  rintro w x cs ⟨c0,c1,rfl,h0,h1⟩
  rw [List.length_append,a.K_len h0,b.K_len h1]
 K_one:=by
  rintro w x cs ⟨c0,c1,rfl,h0,h1⟩ u hu
  rcases List.mem_append.1 hu with hu|hu
  ·exact a.K_one h0 u hu
  ·exact b.K_one h1 u hu
 K_below:=by
  rintro w w1 x cs hb ⟨c0,c1,rfl,h0,h1⟩
  exact ⟨c0,c1,rfl,a.K_below hb h0,b.K_below hb h1⟩
 K_of_M:=by
  rintro w base ok x cs ⟨c0,c1,rfl,h0,h1⟩
  exact ⟨c0,c1,rfl,a.K_of_M h0,b.K_of_M h1⟩
 M_mono:=by
  rintro w base ok ok' x cs hok ⟨c0,c1,rfl,h0,h1⟩
  exact ⟨c0,c1,rfl,a.M_mono hok h0,b.M_mono hok h1⟩
 M_bound:=by
  rintro w base ok x cs ⟨c0,c1,rfl,h0,h1⟩
  refine ⟨c0,c1,rfl,a.M_mono ?_ (a.M_bound h0),b.M_mono ?_ (b.M_bound h1)⟩
  ·rintro k ⟨h2,h3,h4,q,hq,hc⟩
   exact ⟨h2,h3,h4,q,List.mem_append_left _ hq,hc⟩
  ·rintro k ⟨h2,h3,h4,q,hq,hc⟩
   exact ⟨h2,h3,h4,q,List.mem_append_right _ hq,hc⟩
 M_move:=by
  rintro w w1 base ok x cs hm ⟨c0,c1,rfl,h0,h1⟩
  exact ⟨c0,c1,rfl,a.M_move hm h0,b.M_move hm h1⟩
 M_lower:=by
  rintro w base base' ok x cs hb ⟨c0,c1,rfl,h0,h1⟩
  exact ⟨c0,c1,rfl,a.M_lower hb h0,b.M_lower hb h1⟩
def iso {α β : Type} (d : Kd α) (f : β→α) : Kd β where
 sz:=d.sz
 E:=d.E
 K:=fun w x cs=>d.K w (f x) cs
 M:=fun w base ok x cs=>d.M w base ok (f x) cs
 K_len:=d.K_len
 K_one:=d.K_one
 K_below:=d.K_below
 K_of_M:=d.K_of_M
 M_mono:=d.M_mono
 M_bound:=d.M_bound
 M_move:=d.M_move
 M_lower:=d.M_lower
theorem C_get {α : Type} {d : Kd α} {w : World} {A : Option Addr} {n : Nat} {xs : List α} (h : d.C w A n xs) (z : α) (i : Int) (h0 : 0≤i) (h1 : i < n) :
  ∃ ad c,A=some ad∧c.length=d.sz∧d.K w (xs.getD i.toNat z) c ∧ ∀ j u,c[j]? = some u→w.cell? (ad.add (i.toNat * d.sz+j))=some u:=ReadsRow.get_ h z i h0 h1
theorem R_appended {α : Type} {d : Kd α} {e base : Nat} {ok okp : Nat→Prop} {W w1 : World} {v v1 : Value} {xs : List α} {p : α} {inner cs : List Value} (h0 : ∀ k,v.ownBlock=some k→ok k) (hr : Reps (d.M W base (fun k=>ok k∧some k≠v.ownBlock)) d.sz xs inner) (hp : d.M W base okp p cs) (hokp : ∀ k,okp k→ok k∧some k≠v.ownBlock) (hfresh : ∀ k,W.heap.size≤k→ok k)
  (hown : w1.slackRow base e d.sz v1 (xs.length+1) (inner++cs)) (hg : W.grownBy w1 v.ownBlock) (hat : v1.ownBlock=v.ownBlock ∨ ∃ b,v1.ownBlock=some b∧W.heap.size≤b) : d.R e w1 base ok v1 (xs++[p]):=by
 have hne : ∀ k,some k≠v.ownBlock→k < W.heap.size→some k≠v1.ownBlock:=by
  intro k hk hlt
  rcases hat with hat|⟨b,hb,hle⟩
  ·rw [hat];exact hk
  ·rw [hb]
   intro he
   injection he with he
   omega
 have step : ∀ {q : α} {c : List Value} {o : Nat→Prop},d.M W base o q c→(∀ k,o k→ok k∧some k≠v.ownBlock)→d.M w1 base (fun k=>ok k∧some k≠v1.ownBlock) q c:=by
  intro q c o hq ho
  have h1:=d.M_move (w1:=w1) (fun k hk=>hg.block k hk.2.2.1 (ho k hk.1).2) (d.M_bound hq)
  exact d.M_mono (fun k hk=>⟨(ho k hk.1).1,hne k (ho k hk.1).2 hk.2.2.1⟩) h1
 refine ⟨fun k hk=>?_,inner++cs,by rw [List.length_append,List.length_singleton];exact hown,?_⟩
 ·rcases hat with hat|⟨b,hb,hle⟩
  ·exact h0 k (hat ▸ hk)
  ·rw [hb] at hk
   injection hk with hk
   exact hfresh k (by omega)
 ·exact (hr.imp_ (fun _ _ hq=>step hq (fun _ hk=>hk))).snoc (step hp hokp) (d.K_len (d.K_of_M hp))
section
variable {P : Program} {ops : Array Oper} {rest : List Oper} {o : Oper} {a : Act} {Q : Exit→Act→World→Prop} {α : Type}
theorem R_append (d : Kd α) {w0 W : World} (base : Nat) (hgd : o.guard=none) (s x : Operand) (t e : TypeId) (z : Value) (bytes : Nat)
  (ho : o.op=.call { callee:=.builtin .append,args:=#[s,x],argTypes:=#[t,t] })
  (ht : P.underlying t=some (.slice e)) (hinfo : (P.info? e).map (fun i=>(i.zero,i.size,i.bytes))=some (some z,d.sz,bytes)) (hz : z.cells.size=d.sz) (hs0 : 0 < d.sz) (hb0 : 0 < bytes)
  (v : Value) (xs : List α) (p : α) (cs : List Value) (ok okp : Nat→Prop) (hs : a.eval s=v) (hx : a.eval x=.slice (some ⟨W.heap.size,0,none⟩) 1 1) (hp : d.M W base okp p cs) (hokp : ∀ k,okp k→ok k∧some k≠v.ownBlock) (hfresh : ∀ k,W.heap.size≤k→ok k)
  (HO : d.R e W base ok v xs) (HB : Below base w0 W) (hbase : base≤W.heap.size) (hl : (xs.length+1) * bytes≤140737488355328)
  (h : ∀ v1 w1,d.R e w1 base ok v1 (xs++[p])→Below base w0 w1→W.grownBy w1 v.ownBlock→(v1.ownBlock=v.ownBlock ∨ ∃ b,v1.ownBlock=some b∧W.heap.size≤b)→wpList P ops Q rest (a.put o.dst v1) w1) :
  wpList P ops Q (o :: rest) a (W.alloc (.cells cs.toArray e)):=by
 obtain ⟨h0,inner,hown,hr⟩:=HO
 refine print_append_cells base hgd s x t e z d.sz bytes ho ht hinfo hz hs0 hb0 v xs.length inner cs hs hx (d.K_len (d.K_of_M hp)) (d.K_one (d.K_of_M hp)) hown HB hbase hl ?_
 intro v1 w1 hown1 hb1 hg1 hat1
 exact h v1 w1 (R_appended h0 hr hp hokp hfresh hown1 hg1 hat1) hb1 hg1 hat1
end
section
variable {P : Program} {ops : Array Oper} {o : Oper} {a : Act} {Q : Exit→Act→World→Prop} {Kc : Act→World→Prop} {α : Type}
theorem R_append_step (d : Kd α) {w0 W : World} (base : Nat) (hw : Region.wanted o (yielded ops a.tmps)=true) (s x : Operand) (t e : TypeId) (z : Value) (bytes : Nat)
  (ho : o.op=.call { callee:=.builtin .append,args:=#[s,x],argTypes:=#[t,t] })
  (ht : P.underlying t=some (.slice e)) (hinfo : (P.info? e).map (fun i=>(i.zero,i.size,i.bytes))=some (some z,d.sz,bytes)) (hz : z.cells.size=d.sz) (hs0 : 0 < d.sz) (hb0 : 0 < bytes)
  (v : Value) (xs : List α) (p : α) (cs : List Value) (ok okp : Nat→Prop) (hs : a.eval s=v) (hx : a.eval x=.slice (some ⟨W.heap.size,0,none⟩) 1 1) (hp : d.M W base okp p cs) (hokp : ∀ k,okp k→ok k∧some k≠v.ownBlock) (hfresh : ∀ k,W.heap.size≤k→ok k)
  (HO : d.R e W base ok v xs) (HB : Below base w0 W) (hbase : base≤W.heap.size) (hl : (xs.length+1) * bytes≤140737488355328)
  (h : ∀ v1 w1,d.R e w1 base ok v1 (xs++[p])→Below base w0 w1→W.grownBy w1 v.ownBlock→(v1.ownBlock=v.ownBlock ∨ ∃ b,v1.ownBlock=some b∧W.heap.size≤b)→Kc (a.put o.dst v1) w1) :
  if Region.wanted o (yielded ops a.tmps)=true then Oper.wp P o a (W.alloc (.cells cs.toArray e)) Kc Q else Kc (a.put o.dst undef) (W.alloc (.cells cs.toArray e)):=by
 obtain ⟨h0,inner,hown,hr⟩:=HO
 refine step_append_cells base hw s x t e z d.sz bytes ho ht hinfo hz hs0 hb0 v xs.length inner cs hs hx (d.K_len (d.K_of_M hp)) (d.K_one (d.K_of_M hp)) hown HB hbase hl ?_
 intro v1 w1 hown1 hb1 hg1 hat1
 exact h v1 w1 (R_appended h0 hr hp hokp hfresh hown1 hg1 hat1) hb1 hg1 hat1
end
theorem reps_scalar {α : Type} {enc : α→Value} (xs : List α) : Reps (fun (x : α) (cs : List Value)=>cs=[enc x]) 1 xs (encs enc xs):=by
 refine ⟨by simp [encs],fun j p hj=>?_⟩
 obtain ⟨hl,hp⟩:=List.getElem?_eq_some_iff.1 hj
 have hl' : j < (encs enc xs).length:=by rw [encs_length];exact hl
 rw [Nat.mul_one,List.drop_eq_getElem_cons hl']
 simp [encs,hp]
theorem R_of_own {α : Type} {enc : α→Value} {h1 : ∀ x,(enc x).oneCell'=true} {e : Nat} {w : World} {base : Nat} {ok : Nat→Prop} {v : Value} {xs : List α} (ho : w.slackRow base e 1 v xs.length (encs enc xs)) (hok : ∀ k,v.ownBlock=some k→ok k) : (scalar enc h1).R e w base ok v xs:=⟨hok,encs enc xs,ho,reps_scalar xs⟩
theorem own_of_R {α : Type} {enc : α→Value} {h1 : ∀ x,(enc x).oneCell'=true} {e : Nat} {w : World} {base : Nat} {ok : Nat→Prop} {v : Value} {xs : List α} (h : (scalar enc h1).R e w base ok v xs) : w.slackRow base e 1 v xs.length (encs enc xs):=by
 obtain ⟨_,inner,ho,hr⟩:=h
 have : inner=encs enc xs:=by
  apply List.ext_getElem?
  intro j
  rcases Nat.lt_or_ge j xs.length with hj|hj
  ·have h2:=hr.2 j _ (List.getElem?_eq_getElem hj)
   have hl : j < inner.length:=by have:=hr.1;simp [scalar] at this;omega
   have h3 : (inner.drop (j * 1)).take 1=[enc xs[j]]:=h2
   rw [Nat.mul_one,List.drop_eq_getElem_cons hl] at h3
   have h4 : inner[j]=enc xs[j]:=by
    have h5:=congrArg List.head? h3
    rw [List.take_succ_cons] at h5
    exact Option.some.inj h5
   rw [List.getElem?_eq_getElem hl,h4]
   simp [encs,List.getElem?_eq_getElem hj]
  ·have h3 : inner.length=xs.length:=by have:=hr.1;simp [scalar] at this;omega
   rw [List.getElem?_eq_none (by omega),List.getElem?_eq_none (by rw [encs_length];omega)]
 rw [← this]
 exact ho
theorem C_of_reads {α : Type} {enc : α→Value} {d : α} {h1 : ∀ x,(enc x).oneCell'=true} {w : World} {A : Option Addr} {n : Nat} {xs : List α} (h : ReadsOf enc d w A n xs) : (scalar enc h1).C w A n xs:=by
 refine ⟨h.1,h.2.1,fun hn=>?_⟩
 obtain ⟨ad,e,hc⟩:=h.2.2 hn
 refine ⟨ad,e,fun j p hj=>⟨[enc p],rfl,rfl,fun i u hu=>?_⟩⟩
 obtain ⟨hl,hp⟩:=List.getElem?_eq_some_iff.1 hj
 have h2:=hc j (by have:=h.1;omega)
 rw [List.getD_eq_getElem?_getD,hj] at h2
 cases i with
|zero =>
  have : enc p=u:=by simpa using hu
  subst this
  simpa [scalar] using h2
|succ i=>simp at hu
theorem reads_of_C {α : Type} {enc : α→Value} {d : α} {h1 : ∀ x,(enc x).oneCell'=true} {w : World} {A : Option Addr} {n : Nat} {xs : List α} (h : (scalar enc h1).C w A n xs) : ReadsOf enc d w A n xs:=by
 refine ⟨h.1,h.2.1,fun hn=>?_⟩
 obtain ⟨ad,e,hc⟩:=h.2.2 hn
 refine ⟨ad,e,fun j hj=>?_⟩
 have hl : j < xs.length:=by have:=h.1;omega
 obtain ⟨c,_,hK,hcell⟩:=hc j _ (List.getElem?_eq_getElem hl)
 have hK' : c=[enc xs[j]]:=hK
 subst hK'
 have:=hcell 0 _ rfl
 simpa [scalar,List.getD_eq_getElem?_getD,List.getElem?_eq_getElem hl] using this
end Kd
namespace Kd
theorem R_after {α : Type} {d : Kd α} {e base : Nat} {ok : Nat→Prop} {W w1 : World} {u v v1 : Value} {xs : List α} (h : d.R e W base (fun k=>ok k∧some k≠v.ownBlock) u xs) (hg : W.grownBy w1 v.ownBlock) (hat : v1.ownBlock=v.ownBlock ∨ ∃ b,v1.ownBlock=some b∧W.heap.size≤b) : d.R e w1 base (fun k=>ok k∧some k≠v1.ownBlock) u xs:=by
 refine R_mono (R_move (R_bound h) (fun k hk=>hg.block k hk.2.2.1 hk.1.2)) (fun k hk=>⟨hk.1.1,?_⟩)
 rcases hat with hat|⟨b,hb,hle⟩
 ·rw [hat];exact hk.1.2
 ·rw [hb]
  intro he
  injection he with he
  have:=hk.2.2.1
  omega
end Kd
namespace Kd
section
variable {α β : Type} {d : Kd α} {d' : Kd β} {e e' : Nat} {w w1 W : World} {base b b' : Nat} {ok ok' okv oku : Nat→Prop} {v u : Value} {xs : List α} {ys : List β}
theorem R_alloc (h : d.R e w base ok v xs) (o : Obj) : d.R e (w.alloc o) base ok v xs:=R_below h (below_alloc (Below.refl _ _) o)
theorem R_drew (h : d.R e w base ok v xs) : d.R e w.drew base ok v xs:=R_below h (below_drew (Below.refl _ _))
theorem R_drewN (h : d.R e w base ok v xs) (m : Nat) : d.R e (w.drewN m) base ok v xs:=R_below h (pw_below_drewN (Below.refl _ _) m)
theorem C_alloc {A : Option Addr} {n : Nat} (h : d.C w A n xs) (o : Obj) : d.C (w.alloc o) A n xs:=C_below h (below_alloc (Below.refl _ _) o)
theorem C_drew {A : Option Addr} {n : Nat} (h : d.C w A n xs) : d.C w.drew A n xs:=C_below h (below_drew (Below.refl _ _))
theorem C_drewN {A : Option Addr} {n : Nat} (h : d.C w A n xs) (m : Nat) : d.C (w.drewN m) A n xs:=C_below h (pw_below_drewN (Below.refl _ _) m)
theorem C_nil (d : Kd α) (w : World) : d.C w none ([] : List α).length []:=⟨rfl,by simp,fun h=>absurd h (Nat.lt_irrefl 0)⟩
theorem C_max {A : Option Addr} {n : Nat} (h : d.C w A n xs) : n≤9223372036854775807:=h.2.1
theorem R_reads' {A : Option Addr} {n c : Nat} (h : d.R e w base ok (.slice A n c) xs) : n=xs.length∧n≤c∧d.C w A xs.length xs:=by
 obtain ⟨A',c',he,hl,hr⟩:=R_reads h
 injection he with h1 h2 h3
 subst h1
 exact ⟨h2,by omega,hr⟩
theorem R_lt (h : d.R e w base ok v xs) : ∀ k,v.ownBlock=some k→k < w.heap.size:=by
 obtain ⟨inner,ho⟩:=R_own h
 exact own_lt ho
theorem R_base (h : d.R e w base ok v xs) : ∀ k,v.ownBlock=some k→base≤k:=by
 obtain ⟨inner,ho⟩:=R_own h
 exact own_base ho
theorem R_form (h : d.R e w base ok v xs) (hp : 0 < xs.length) : ∃ g cap,v=.slice (some ⟨g,0,none⟩) xs.length cap∧base≤g∧g < w.heap.size ∧ ∃ cells,w.heap[g]? = some (.cells cells e (0,0)):=by
 obtain ⟨inner,ho⟩:=R_own h
 obtain ⟨g,cap,he,hb,hl⟩:=ho.form hp
 obtain ⟨cells,hc⟩:=own_typed ho g (by rw [he];simp [Value.ownBlock])
 exact ⟨g,cap,he,hb,hl,cells,hc⟩
end
section
variable {w W : World} {A : Option Addr} {n : Nat}
theorem at_int {k : IntKind} {xs : List Int} (h : (Kd.int k).C w A n xs) (i : Int) (h0 : 0≤i) (h1 : i < n) : ∃ ad,A=some ad∧w.cell? (ad.add i.toNat)=some (.int k (rd xs i)) :=
 ReadsOf.at_ (reads_of_C (enc:=Value.int k) (d:=(0 : Int)) (h1:=fun _=>rfl) h) i h0 h1
variable {α : Type} {enc : α→Value} {h1 : ∀ x,(enc x).oneCell'=true} {e base g cap : Nat} {ok : Nat→Prop} {xs : List α}
theorem R_cell (d : α) (h : (scalar enc h1).R e W base ok (.slice (some ⟨g,0,none⟩) xs.length cap) xs) (i : Int) (h0 : 0≤i) (hi : i < xs.length) : W.cell? ⟨g,i.toNat,none⟩=some (enc (rdOf d xs i))∧W.frozen? ⟨g,i.toNat,none⟩=false:=own_at_of (own_of_R h) i h0 hi
theorem R_put (h : (scalar enc h1).R e W base ok (.slice (some ⟨g,0,none⟩) xs.length cap) xs) (i : Int) (x : α) : (scalar enc h1).R e (W.setCell ⟨g,i.toNat,none⟩ (enc x)) base ok (.slice (some ⟨g,0,none⟩) xs.length cap) (xs.set i.toNat x)∧W.grownBy (W.setCell ⟨g,i.toNat,none⟩ (enc x)) (some g):=by
 obtain ⟨ho,hg⟩:=own_store_of (own_of_R h) i x
 exact ⟨R_of_own (by rw [List.length_set];exact ho) h.1,hg⟩
end
section
variable {P : Program} {ops : Array Oper} {rest : List Oper} {o : Oper} {a : Act} {Q : Exit→Act→World→Prop}
theorem event_run {W w1 : World} {v : Value} (hgd : o.guard=none) (hrun : (execOp a.eval o).run P W=.ok (.value v) w1) (h : wpList P ops Q rest (a.put o.dst v) w1) : wpList P ops Q (o :: rest) a W:=by
 refine wpList_plain hgd fun K hK=>?_
 unfold Oper.wp
 rw [hrun]
 exact hK _ _ h
variable {α : Type}
theorem R_lit (d : Kd α) {w0 W : World} (base e : Nat) (hgd : o.guard=none) {N : Tmp} (_hd : o.dst=some N) {xs : List α} {inner : List Value} {ok okp : Nat→Prop}
  (hrun : (execOp a.eval o).run P W=.ok (.value (.slice (some ⟨W.heap.size,0,none⟩) xs.length xs.length)) (W.alloc (.cells inner.toArray e)))
  (hrep : Reps (d.M W base okp) d.sz xs inner) (hok : ∀ k,okp k→ok k) (hfresh : ok W.heap.size) (HB : Below base w0 W) (hbase : base≤W.heap.size) (hm : xs.length≤9223372036854775807)
  (h : ∀ v1 w1,d.R e w1 base ok v1 xs→Below base w0 w1→W.grownBy w1 none→(∃ b,v1.ownBlock=some b∧W.heap.size≤b)→wpList P ops Q rest (a.put o.dst v1) w1) : wpList P ops Q (o :: rest) a W:=by
 refine event_run hgd hrun (h _ _ ⟨fun k hk=>?_,inner,?_,?_⟩ (HB.alloc hbase _) (World.grownBy_alloc W _ none) ⟨W.heap.size,by simp [Value.ownBlock],Nat.le_refl _⟩)
 ·have : W.heap.size=k:=by simpa [Value.ownBlock] using hk
  subst this
  exact hfresh
 ·have h2:=World.slackRow_lit (base:=base) (e:=e) (size:=d.sz) W inner.toArray xs.length hbase (by simpa [maxLen] using hm) (by simpa using hrep.1)
  simpa using h2
 ·refine hrep.imp_ (fun p c hp=>d.M_mono (fun k hk=>⟨hok k hk.1,fun he=>?_⟩) (M_below (d.M_bound hp) (below_alloc (Below.refl _ _) _)))
  have h3 : k=W.heap.size:=by simpa [Value.ownBlock] using he
  have:=hk.2.2.1
  omega
theorem reps_made {α : Type} {R : α→List Value→Prop} {z : Value} {size : Nat} {z0 : α} (hz : z.cells.size=size) (hs : 0 < size) (h0 : R z0 z.cells.toList) (m : Nat) : Reps R size (List.replicate m z0) (madeCells z.cells (m * size)).toList:=by
 refine ⟨by simp [size_madeCells],fun j p hj=>?_⟩
 obtain ⟨hjl,hp⟩:=List.getElem?_eq_some_iff.1 hj
 have hjm : j < m:=by simpa using hjl
 have hp' : z0=p:=by simpa using hp
 subst hp'
 have hle : j * size+size≤m * size:=by rw [← Nat.succ_mul];exact Nat.mul_le_mul_right _ hjm
 have : ((madeCells z.cells (m * size)).toList.drop (j * size)).take size=z.cells.toList:=by
  apply List.ext_getElem
  ·simp [size_madeCells,hz]
   omega
  ·intro i h1 h2
   have hi : i < size:=by rw [Array.length_toList,hz] at h2;exact h2
   have hmod : (j * size+i) % size=i:=by
    rw [Nat.mul_comm,Nat.mul_add_mod]
    exact Nat.mod_eq_of_lt hi
   simp [madeCells,hz,hmod]
   rw [getElem!_pos z.cells i (by omega)]
 rw [this]
 exact h0
theorem R_make (d : Kd α) {w0 W : World} (base e : Nat) (hgd : o.guard=none) {N : Tmp} (hd : o.dst=some N) (t : TypeId) (x y : Operand) (ho : o.op=.makeSlice t x y) (n : Int) (hx : a.eval x=.int .i64 n) (hy : a.eval y=.int .i64 n)
  (ht : P.underlying t=some (.slice e)) (z : Value) (bytes : Nat) (hinfo : (P.info? e).map (fun i=>(i.zero,i.size,i.bytes))=some (some z,d.sz,bytes)) (hz : z.cells.size=d.sz) (hs0 : 0 < d.sz) (hb0 : 0 < bytes)
  (z0 : α) {ok okp : Nat→Prop} (hzero : d.M W base okp z0 z.cells.toList) (hok : ∀ k,okp k→ok k) (hfresh : ok W.heap.size) (h0 : 0≤n) (hl : n.toNat * bytes≤281474976710656) (HB : Below base w0 W) (hbase : base≤W.heap.size)
  (h : ∀ v1 w1,d.R e w1 base ok v1 (List.replicate n.toNat z0)→Below base w0 w1→W.grownBy w1 none→(∃ b,v1.ownBlock=some b∧W.heap.size≤b)→wpList P ops Q rest (a.put o.dst v1) w1) : wpList P ops Q (o :: rest) a W:=by
 obtain ⟨m,rfl⟩:=Int.eq_ofNat_of_zero_le h0
 simp only [Int.toNat_natCast] at hl h
 obtain ⟨i0,hi,hzz⟩:=Option.map_eq_some_iff.1 hinfo
 simp only [Prod.mk.injEq] at hzz
 obtain ⟨hz0,hz1,hz2⟩:=hzz
 have hm : m≤281474976710656:=Nat.le_trans (Nat.le_mul_of_pos_right _ hb0) hl
 have hr:=run_make (P:=P) W t e i0 z ht hi hz0 .i64 .i64 (m : Int) (m : Int) (by omega) (by omega)
  (by
   have h3 : ((i0.bytes * m : Nat) : Int)≤281474976710656:=by rw [hz2,Nat.mul_comm];omega
   rwa [Int.natCast_mul] at h3) (by omega)
 simp only [Int.toNat_natCast] at hr
 rw [hz1] at hr
 refine R_lit d base e hgd hd (xs:=List.replicate m z0) (inner:=(madeCells z.cells (m * d.sz)).toList) (okp:=okp) (ok:=ok) ?_ (reps_made hz hs0 hzero m) hok hfresh HB hbase (by simp;omega) h
 simp [execOp,ho,hx,hy,hr]
end
end Kd
section
variable {P : Program}
theorem cut_to (t e : TypeId) (kh : IntKind) {i : TypeInfo} (ht : P.underlying t=some (.slice e)) (hi : P.info? e=some i) (A : Option Addr) (n c : Nat) (j : Int) (h0 : 0≤j) (hm : j≤n) (hc : n≤c) :
  ∀ W : World,(Instr.slice t (.slice A n c) none (some (.int kh j)) none).run P W=.ok (.slice A j.toNat c) W:=by
 intro W
 have hel : P.elem t=e:=by simp [Program.elem,ht]
 have hu : P.underlying t=some (.slice (P.elem t)):=by rw [hel];exact ht
 have ha : (A.map fun x=>x.add 0)=A:=by cases A <;> simp [Addr.add]
 rw [run_slice_h W t A n c hu kh j h0 (by omega),hel]
 simp [sizeOf,typeInfo,hi,sliced,Result.andThen,ha]
end
def QRow (w : World) (base : Nat) (e : TypeId) (size : Nat) (v : Value) (n : Nat) (xs : List Value) : Prop :=
 xs.length=n * size ∧
 ((n=0 ∧ ∃ A,v=.slice A 0 0 ∧ ∀ a,A=some a→base≤a.block ∧ ∃ cur,w.heap[a.block]? = some (.cells cur e (0,0))) ∨
  ∃ g off cap cur,v=.slice (some ⟨g,off * size,none⟩) n cap∧base≤g∧w.heap[g]? = some (.cells cur e (0,0))∧n≤cap∧off+cap≤maxLen∧(off+cap) * size≤cur.size∧(cur.toList.drop (off * size)).take (n * size)=xs)
section
variable {w w1 : World} {base n size : Nat} {e : TypeId} {v : Value} {xs : List Value}
theorem q_of_own (h : w.slackRow base e size v n xs) : QRow w base e size v n xs:=by
 obtain ⟨h1,h2⟩:=h
 refine ⟨h1,?_⟩
 rcases h2 with ⟨rfl,h0⟩|⟨g,cap,cur,rfl,hb,hh,hnc,hcm,hcs,ht⟩
 ·exact .inl ⟨h0,none,rfl,fun a ha=>by cases ha⟩
 ·exact .inr ⟨g,0,cap,cur,by rw [Nat.zero_mul],hb,hh,hnc,by rw [Nat.zero_add];exact hcm,by rw [Nat.zero_add];exact hcs,by rw [Nat.zero_mul,List.drop_zero];exact ht⟩
end
namespace Kd
theorem reps_take {α : Type} {R : α→List Value→Prop} {size m : Nat} {ps : List α} {cs : List Value} (h : Reps R size ps cs) (hm : m≤ps.length) : Reps R size (ps.take m) (cs.take (m * size)):=by
 refine ⟨by rw [List.length_take,List.length_take,h.1,Nat.min_eq_left hm,Nat.min_eq_left (Nat.mul_le_mul_right _ hm)],fun j p hj=>?_⟩
 rw [List.getElem?_take] at hj
 split at hj
 ·rename_i hjm
  have:=h.2 j p hj
  have hle : j * size+size≤m * size:=by rw [← Nat.succ_mul];exact Nat.mul_le_mul_right _ hjm
  rw [List.drop_take,List.take_take,Nat.min_eq_left (by omega)]
  exact this
 ·cases hj
def Q {α : Type} (d : Kd α) (e : Nat) (w : World) (base : Nat) (ok : Nat→Prop) (v : Value) (xs : List α) : Prop :=
 (∀ k,v.ownBlock=some k→ok k) ∧ ∃ inner,QRow w base e d.sz v xs.length inner∧Reps (d.M w base (fun k=>ok k∧some k≠v.ownBlock)) d.sz xs inner
section
variable {α : Type} {d : Kd α} {e : Nat} {w w1 W : World} {base : Nat} {ok ok' : Nat→Prop} {v : Value} {xs : List α}
theorem Q_of_R (h : d.R e w base ok v xs) : d.Q e w base ok v xs:=by
 obtain ⟨h0,inner,ho,hr⟩:=h
 exact ⟨h0,inner,q_of_own ho,hr⟩
theorem Q_nil (d : Kd α) (e : Nat) (w : World) (base : Nat) (ok : Nat→Prop) : d.Q e w base ok (.slice none 0 0) []:=Q_of_R (R_nil d e w base ok)
end
end Kd
namespace Kd
section
variable {α : Type} {d : Kd α} {e e' : Nat} {w w1 W : World} {base : Nat} {ok : Nat→Prop} {u v : Value} {xs : List α}
theorem R_typed (h : d.R e w base ok v xs) : ∀ k,v.ownBlock=some k → ∃ cells,w.heap[k]? = some (.cells cells e (0,0)):=by
 obtain ⟨inner,ho⟩:=R_own h
 exact fun k hk=>own_typed ho k hk
theorem R_over' (h : d.R e W base ok u xs) (hty : ∀ k,v.ownBlock=some k → ∃ cells,W.heap[k]? = some (.cells cells e' (0,0))) (ht : ∀ q,q∈e :: d.E→q≠e') (hg : W.grownBy w1 v.ownBlock) : d.R e w1 base ok u xs:=by
 refine R_mono (R_move (R_bound h) (fun k hk=>hg.block k hk.2.2.1 (fun he=>?_))) (fun _ hk=>hk.1)
 obtain ⟨_,_,_,q,hq,cells,hc⟩:=hk
 obtain ⟨cells',hc'⟩:=hty k he.symm
 rw [hc] at hc'
 injection hc' with hc'
 injection hc' with _ hc'
 exact ht q hq hc'
theorem R_elder' (hu : d.R e W base ok u xs) (hbase : ∀ k,v.ownBlock=some k→W.heap.size≤k) (hb : Below W.heap.size W w1) : d.R e w1 base (fun k=>ok k∧some k≠v.ownBlock) u xs :=
 R_mono (R_move (R_bound hu) (fun k hk=>hb.block k hk.2.2.1)) (fun k hk=>⟨hk.1,fun he=>by have:=hbase k he.symm;have:=hk.2.2.1;omega⟩)
theorem R_new' (h : d.R e w1 W.heap.size ok v xs) (hlt : ∀ k,u.ownBlock=some k→k < W.heap.size) : d.R e w1 W.heap.size (fun k=>ok k∧some k≠u.ownBlock) v xs :=
 R_mono (R_bound h) (fun k hk=>⟨hk.1,fun he=>by have:=hlt k he.symm;have:=hk.2.1;omega⟩)
theorem fresh' (hlt : ∀ k,u.ownBlock=some k→k < W.heap.size) : ∀ k,W.heap.size≤k→some k≠u.ownBlock:=fun k hk he=>by have:=hlt k he.symm;omega
end
end Kd
namespace Kd
theorem reps_append {α : Type} {R : α→List Value→Prop} {size : Nat} {ps qs : List α} {cs ds : List Value} (h : Reps R size ps cs) (h' : Reps R size qs ds) : Reps R size (ps++qs) (cs++ds):=by
 refine ⟨by rw [List.length_append,List.length_append,h.1,h'.1,Nat.add_mul],fun j p hj=>?_⟩
 rcases Nat.lt_or_ge j ps.length with hlt|hge
 ·rw [List.getElem?_append_left hlt] at hj
  have hle : j * size+size≤cs.length:=by rw [h.1,← Nat.succ_mul];exact Nat.mul_le_mul_right _ hlt
  rw [List.drop_append_of_le_length (by omega),List.take_append_of_le_length (by rw [List.length_drop];omega)]
  exact h.2 j p hj
 ·rw [List.getElem?_append_right hge] at hj
  have h2:=h'.2 (j - ps.length) p hj
  have hle : ps.length * size≤j * size:=Nat.mul_le_mul_right _ hge
  rw [List.drop_append,List.drop_eq_nil_of_le (by rw [h.1];exact hle),List.nil_append,h.1,← Nat.sub_mul]
  exact h2
section
variable {P : Program} {ops : Array Oper} {rest : List Oper} {o : Oper} {a : Act} {Q : Exit→Act→World→Prop} {α : Type}
theorem R_append_rows (d : Kd α) {Rr : α→List Value→Prop} {w0 W : World} (base : Nat) (hgd : o.guard=none) (s x : Operand) (t e : TypeId) (z : Value) (bytes : Nat)
  (ho : o.op=.call { callee:=.builtin .append,args:=#[s,x],argTypes:=#[t,t] })
  (ht : P.underlying t=some (.slice e)) (hinfo : (P.info? e).map (fun i=>(i.zero,i.size,i.bytes))=some (some z,d.sz,bytes)) (hz : z.cells.size=d.sz) (hs0 : 0 < d.sz) (hb0 : 0 < bytes)
  (v : Value) (xs ys : List α) (A : Option Addr) (m c : Nat) (ok okp : Nat→Prop) (hs : a.eval s=v) (hx : a.eval x=.slice A m c)
  (HO : d.R e W base ok v xs) (HR : ReadsRow Rr d.sz W A m ys) (hKM : ∀ x cs,Rr x cs→d.M W base okp x cs) (hokp : ∀ k,okp k→ok k∧some k≠v.ownBlock) (hfresh : ∀ k,W.heap.size≤k→ok k)
  (HB : Below base w0 W) (hbase : base≤W.heap.size) (hl : (xs.length+m) * bytes≤140737488355328)
  (h : ∀ v1 w1,d.R e w1 base ok v1 (xs++ys)→Below base w0 w1→W.grownBy w1 v.ownBlock→(v1.ownBlock=v.ownBlock ∨ ∃ b,v1.ownBlock=some b∧W.heap.size≤b)→wpList P ops Q rest (a.put o.dst v1) w1) :
  wpList P ops Q (o :: rest) a W:=by
 obtain ⟨i0,hi,hzz⟩:=Option.map_eq_some_iff.1 hinfo
 simp only [Prod.mk.injEq] at hzz
 obtain ⟨hz0,hz1,hz2⟩:=hzz
 have hm : ys.length=m:=HR.1
 have hlen : xs.length+m≤140737488355328:=Nat.le_trans (Nat.le_mul_of_pos_right _ hb0) hl
 obtain ⟨hok,inner,hown,hr⟩:=HO
 have hrun : ∃ v1 w1,(Builtin.append_ #[t,t] o.type #[v,.slice A m c]).run P W=.ok v1 w1∧d.R e w1 base ok v1 (xs++ys)∧W.grownBy w1 v.ownBlock∧(v1.ownBlock=v.ownBlock ∨ ∃ b,v1.ownBlock=some b∧W.heap.size≤b):=by
  rcases A with _|ad
  ·have h0 : m=0:=by
    rcases Nat.eq_zero_or_pos m with h0|h0
    ·exact h0
    ·obtain ⟨ad,h,_⟩:=HR.2.2 h0
     cases h
   subst h0
   obtain rfl : ys=[]:=List.eq_nil_of_length_eq_zero hm
   refine ⟨v,W,?_,by rw [List.append_nil];exact ⟨hok,inner,hown,hr⟩,World.grownBy.refl W _,.inl rfl⟩
   rcases hown.2 with ⟨rfl,hn⟩|⟨g,cap,cur,rfl,_,_,hnc,_⟩
   ·simp [Builtin.append_,run_underlying ht,sizeOf,typeInfo,hi,Builtin.lenOf,Builtin.firstCells]
   ·simp [Builtin.append_,run_underlying ht,sizeOf,typeInfo,hi,Builtin.lenOf,Builtin.firstCells,hnc,storeCells]
  ·obtain ⟨news,hnr,hnc⟩:=ReadsRow.inner_ HR
   have hnM : Reps (d.M W base okp) d.sz ys news:=hnr.imp_ (fun p c hp=>hKM p c hp)
   have hone : ∀ u∈news,u.oneCell'=true:=by
    intro u hu
    obtain ⟨q,hq,rfl⟩:=List.mem_iff_getElem.1 hu
    have hql : q / d.sz < ys.length:=by
     rw [Nat.div_lt_iff_lt_mul hs0]
     rw [← hnM.1]
     exact hq
    have hc:=hnM.2 (q / d.sz) _ (List.getElem?_eq_getElem hql)
    refine d.K_one (d.K_of_M hc) _ ?_
    rw [List.mem_iff_getElem?]
    refine ⟨q % d.sz,?_⟩
    rw [List.getElem?_take,if_pos (Nat.mod_lt _ hs0),List.getElem?_drop,Nat.mul_comm,Nat.div_add_mod,List.getElem?_eq_getElem hq]
   obtain ⟨v1,w1,hrun,h2,hg,_,hat⟩:=run_append_slack_at (P:=P) W base t o.type e i0 z d.sz bytes ht hi hz0 hz1 hz2 hz hs0 v xs.length inner hown ad m c news (by rw [hnM.1,hm]) hnc hone (by simp only [maxLen];omega) hl hbase
   have hat' : v1.ownBlock=v.ownBlock ∨ ∃ b,v1.ownBlock=some b∧W.heap.size≤b:=by
    rcases hat with hat|hat
    ·exact .inl hat
    ·exact .inr ⟨_,hat,Nat.le_refl _⟩
   have hne : ∀ k,some k≠v.ownBlock→k < W.heap.size→some k≠v1.ownBlock:=by
    intro k hk hlt
    rcases hat' with hat|⟨b,hb,hle⟩
    ·rw [hat];exact hk
    ·rw [hb]
     intro he
     injection he with he
     omega
   have step : ∀ {q : α} {c : List Value} {o : Nat→Prop},d.M W base o q c→(∀ k,o k→ok k∧some k≠v.ownBlock)→d.M w1 base (fun k=>ok k∧some k≠v1.ownBlock) q c:=by
    intro q c o hq ho
    have h1:=d.M_move (w1:=w1) (fun k hk=>hg.block k hk.2.2.1 (ho k hk.1).2) (d.M_bound hq)
    exact d.M_mono (fun k hk=>⟨(ho k hk.1).1,hne k (ho k hk.1).2 hk.2.2.1⟩) h1
   refine ⟨v1,w1,hrun,⟨fun k hk=>?_,inner++news,by rw [List.length_append,hm];exact h2,reps_append (hr.imp_ (fun _ _ hq=>step hq (fun _ hk=>hk))) (hnM.imp_ (fun _ _ hq=>step hq hokp))⟩,hg,hat'⟩
   rcases hat' with hat|⟨b,hb,hle⟩
   ·exact hok k (hat ▸ hk)
   ·rw [hb] at hk
    injection hk with hk
    exact hfresh k (by omega)
 obtain ⟨v1,w1,hr1,h1,hg,hat⟩:=hrun
 refine wpList_plain hgd fun K hK=>?_
 unfold Oper.wp execOp
 simp only [ho,resolve,invoke,builtin,Sem.run_bind,Sem.run_pure,Result.andThen_ok,List.map_toArray,List.map_cons,List.map_nil,hs,hx,hr1]
 exact hK _ _ (h v1 w1 h1 (HB.grown hg hbase (own_base hown)) hg hat)
end
end Kd
namespace Kd
section
variable {α : Type} {k : Kd α} {w : World} {A : Option Addr} {xs : List α} {m c : Nat}
theorem C_take (h : k.C w A xs.length xs) (hm : m≤xs.length) : k.C w A (xs.take m).length (xs.take m):=by
 have hl : (xs.take m).length=m:=by rw [List.length_take];omega
 refine ⟨rfl,by rw [hl];have:=h.2.1;omega,fun hp=>?_⟩
 obtain ⟨ad,e,hc⟩:=h.2.2 (by omega)
 refine ⟨ad,e,fun j p hj=>hc j p ?_⟩
 rw [List.getElem?_take] at hj
 split at hj
 ·exact hj
 ·cases hj
end
end Kd
section
variable {P : Program}
theorem cut_mid (t e : TypeId) (kl kh : IntKind) {i : TypeInfo} (ht : P.underlying t=some (.slice e)) (hi : P.info? e=some i) (size : Nat) (hsz : i.size=size) (A : Option Addr) (n c : Nat) (lo hi' : Int) (h0 : 0≤lo) (h1 : lo≤hi') (h2 : hi'≤n) (hc : n≤c) :
  ∀ W : World,(Instr.slice t (.slice A n c) (some (.int kl lo)) (some (.int kh hi')) none).run P W=.ok (.slice (if c=lo.toNat then A else A.map (·.add (lo.toNat * size))) (hi'.toNat - lo.toNat) (c - lo.toNat)) W:=by
 intro W
 have hel : P.elem t=e:=by simp [Program.elem,ht]
 have hu : P.underlying t=some (.slice (P.elem t)):=by rw [hel];exact ht
 rw [run_slice_lh W t A n c hu kl kh lo hi' h0 h1 (by omega),hel]
 simp [sizeOf,typeInfo,hi,hsz,sliced,Result.andThen]
end
theorem below_size {w W : World} (h : Below w.heap.size w W) : w.heap.size≤W.heap.size:=h.size
theorem below_step {w W w2 : World} (h : Below w.heap.size w W) (k : Below W.heap.size W w2) : Below w.heap.size w w2:=below_then h h.size k
theorem ReadsInt.nil (W : World) (k : IntKind) : ReadsInt W k none ([] : List Int).length []:=⟨rfl,by simp,fun h=>absurd h (Nat.lt_irrefl 0)⟩
theorem ReadsInt.drewN {W : World} {k : IntKind} {A : Option Addr} {n : Nat} {xs : List Int} (h : ReadsInt W k A n xs) (m : Nat) : ReadsInt (W.drewN m) k A n xs:=h
theorem ReadsInt.ofRow {k : IntKind} {w : World} {a : Option Addr} {len cap : Nat} {zs : List Int} (h : (a=none∧len=0∧cap=0∧zs=[]) ∨ ∃ x,a=some x∧len≤cap∧cap≤maxLen∧zs.length=cap∧(∀ i,i < zs.length→w.cell? (x.add i)=some (.int k (zs.getD i 0))) ∧ ∀ n∈zs,(Lit.int k n).wf=true) :
  ∃ l : List Int,len=l.length∧ReadsInt w k a l.length l∧l.length≤maxLen ∧ ∀ x∈l,(Lit.int k x).wf=true:=by
 rcases h with ⟨rfl,rfl,rfl,rfl⟩|⟨x,rfl,hl,hm,hz,hc,hw⟩
 ·exact ⟨[],rfl,ReadsInt.nil _ _,Nat.zero_le _,fun x hx=>by simp at hx⟩
 ·have e : (zs.take len).length=len:=by simp;omega
  have hm' : len≤maxLen:=Nat.le_trans hl hm
  refine ⟨zs.take len,e.symm,⟨rfl,by rw [e];simpa [maxLen] using hm',fun _=>⟨x,rfl,fun j hj=>?_⟩⟩,by rw [e];exact hm',fun y hy=>hw y (List.mem_of_mem_take hy)⟩
  rw [e] at hj
  rw [hc j (by omega)]
  simp [List.getD,List.getElem?_take,hj]
theorem below_set {w W : World} {g j : Nat} {v : Value} (h : Below w.heap.size w W) (hg : w.heap.size≤g) : Below w.heap.size w (W.setCell ⟨g,j,none⟩ v):=h.setCell hg _
theorem ReadsOf.nil {α : Type} (enc : α→Value) (d : α) (W : World) : ReadsOf enc d W none ([] : List α).length []:=⟨rfl,by simp,fun h=>absurd h (Nat.lt_irrefl 0)⟩
theorem ReadsOf.drewN {α : Type} {enc : α→Value} {d : α} {W : World} {A : Option Addr} {n : Nat} {xs : List α} (h : ReadsOf enc d W A n xs) (m : Nat) : ReadsOf enc d (W.drewN m) A n xs:=h
theorem blk_put {w : World} {g : Nat} {t : TypeId} {cs cs' : Array Value} (h : w.heap[g]? = some (.cells cs t (0,0))) (i : Nat) (u : Value) (e : cs.setIfInBounds i u=cs') : (w.setCell ⟨g,i,none⟩ u).heap[g]? = some (.cells cs' t (0,0)):=e ▸ blk_set h i u
theorem ReadsInt.ofRowC {k : IntKind} {w : World} {a : Option Addr} {len cap : Nat} {zs : List Int} (h : (a=none∧len=0∧cap=0∧zs=[]) ∨ ∃ x,a=some x∧len≤cap∧cap≤maxLen∧zs.length=cap∧(∀ i,i < zs.length→w.cell? (x.add i)=some (.int k (zs.getD i 0))) ∧ ∀ n∈zs,(Lit.int k n).wf=true) :
  ∃ l : List Int,len=l.length∧ReadsInt w k a l.length l∧l.length≤maxLen∧(∀ x∈l,(Lit.int k x).wf=true)∧l.length≤cap:=by
 have hl : len≤cap:=by
  rcases h with ⟨_,rfl,rfl,_⟩|⟨_,_,h,_⟩
  ·exact Nat.le_refl _
  ·exact h
 obtain ⟨l,e,h1,h2,h3⟩:=ReadsInt.ofRow h
 exact ⟨l,e,h1,h2,h3,e ▸ hl⟩
theorem below_drew1 {base : Nat} {w W : World} (h : Below base w W) : Below base w W.drew:=h.drew
section
variable {P : Program} {ops : Array Oper} {rest : List Oper} {o : Oper} {a : Act} {Q : Exit→Act→World→Prop}
theorem box_event {W : World} (hgd : o.guard=none) {N : Tmp} (_hd : o.dst=some N) {cs : Array Value} {t : TypeId}
  (hrun : (execOp a.eval o).run P W=.ok (.value (.pointer (some ⟨W.heap.size,0,none⟩))) (W.alloc (.cells cs t (0,0))))
  (h : ∀ g,g=W.heap.size → ∀ w1,w1.heap[g]? = some (.cells cs t (0,0))→Below W.heap.size W w1→wpList P ops Q rest (a.put o.dst (.pointer (some ⟨g,0,none⟩))) w1) : wpList P ops Q (o :: rest) a W :=
 Kd.event_run hgd hrun (h _ rfl _ (blk_new W _) (below_alloc (Below.refl _ _) _))
end
namespace Kd
section
variable {α : Type} {enc : α→Value} {h1 : ∀ x,(enc x).oneCell'=true} {e base g n cap : Nat} {ok : Nat→Prop} {W : World} {xs : List α}
theorem R_celln (d : α) (h : (scalar enc h1).R e W base ok (.slice (some ⟨g,0,none⟩) n cap) xs) (i : Int) (h0 : 0≤i) (hi : i < n) : W.cell? ⟨g,i.toNat,none⟩=some (enc (rdOf d xs i))∧W.frozen? ⟨g,i.toNat,none⟩=false:=by
 obtain ⟨rfl,_⟩:=R_reads' h
 exact R_cell d h i h0 hi
end
end Kd
section
variable {P : Program} {ops : Array Oper} {rest : List Oper} {o : Oper} {a : Act} {Q : Exit→Act→World→Prop}
theorem store_event {W w1 : World} (hgd : o.guard=none) {t : TypeId} {p : Tmp} {v : Operand} (_ho : o.op=.store t (.tmp p) v) (hN : o.dst=none)
  (hrun : (execOp a.eval o).run P W=.ok .skip w1) (h : ∀ w',w'=w1→wpList P ops Q rest a w') : wpList P ops Q (o :: rest) a W:=by
 refine wpList_plain hgd fun K hK=>?_
 unfold Oper.wp
 rw [hrun]
 show K (a.put o.dst undef) w1
 rw [hN]
 exact hK _ _ (h _ rfl)
end
namespace Kd
section
variable {α : Type} {enc : α→Value} {h1 : ∀ x,(enc x).oneCell'=true} {e base g n cap : Nat} {ok : Nat→Prop} {W : World} {xs : List α}
theorem R_putg (h : (scalar enc h1).R e W base ok (.slice (some ⟨g,0,none⟩) n cap) xs) (i : Int) (x : α) : (scalar enc h1).R e (W.setCell ⟨g,i.toNat,none⟩ (enc x)) base ok (.slice (some ⟨g,0,none⟩) n cap) (xs.set i.toNat x)∧W.grownBy (W.setCell ⟨g,i.toNat,none⟩ (enc x)) (some g):=by
 obtain ⟨rfl,_⟩:=R_reads' h
 exact R_put h i x
end
end Kd
section
variable {P : Program} {ops : Array Oper} {rest : List Oper} {o : Oper} {a : Act} {Q : Exit→Act→World→Prop} {W : World}
theorem gate_dst {N : Tmp} (_hN : o.dst=some N) (h : wpList P ops Q (o :: rest) a W) : wpList P ops Q (o :: rest) a W:=h
theorem gate_store {t : TypeId} {p : Tmp} {v : Operand} (_ho : o.op=.store t (.tmp p) v) (h : wpList P ops Q (o :: rest) a W) : wpList P ops Q (o :: rest) a W:=h
end
section
variable {P : Program} {ops : Array Oper} {o : Oper} {a : Act} {Q : Exit→Act→World→Prop} {Kc : Act→World→Prop}
theorem event_step {W w1 : World} {v : Value} (hw : Region.wanted o (yielded ops a.tmps)=true) (hrun : (execOp a.eval o).run P W=.ok (.value v) w1) (h : Kc (a.put o.dst v) w1) : if Region.wanted o (yielded ops a.tmps)=true then Oper.wp P o a W Kc Q else Kc (a.put o.dst undef) W:=by
 rw [if_pos hw]
 unfold Oper.wp
 rw [hrun]
 exact h
namespace Kd
variable {α : Type}
theorem R_lit_step (d : Kd α) {w0 W : World} (base e : Nat) (hw : Region.wanted o (yielded ops a.tmps)=true) {N : Tmp} (_hd : o.dst=some N) {xs : List α} {inner : List Value} {ok okp : Nat→Prop}
  (hrun : (execOp a.eval o).run P W=.ok (.value (.slice (some ⟨W.heap.size,0,none⟩) xs.length xs.length)) (W.alloc (.cells inner.toArray e)))
  (hrep : Reps (d.M W base okp) d.sz xs inner) (hok : ∀ k,okp k→ok k) (hfresh : ok W.heap.size) (HB : Below base w0 W) (hbase : base≤W.heap.size) (hm : xs.length≤9223372036854775807)
  (h : ∀ v1 w1,d.R e w1 base ok v1 xs→Below base w0 w1→W.grownBy w1 none→(∃ b,v1.ownBlock=some b∧W.heap.size≤b)→Kc (a.put o.dst v1) w1) : if Region.wanted o (yielded ops a.tmps)=true then Oper.wp P o a W Kc Q else Kc (a.put o.dst undef) W:=by
 refine event_step hw hrun (h _ _ ⟨fun k hk=>?_,inner,?_,?_⟩ (HB.alloc hbase _) (World.grownBy_alloc W _ none) ⟨W.heap.size,by simp [Value.ownBlock],Nat.le_refl _⟩)
 ·have : W.heap.size=k:=by simpa [Value.ownBlock] using hk
  subst this
  exact hfresh
 ·have h2:=World.slackRow_lit (base:=base) (e:=e) (size:=d.sz) W inner.toArray xs.length hbase (by simpa [maxLen] using hm) (by simpa using hrep.1)
  simpa using h2
 ·refine hrep.imp_ (fun p c hp=>d.M_mono (fun k hk=>⟨hok k hk.1,fun he=>?_⟩) (M_below (d.M_bound hp) (below_alloc (Below.refl _ _) _)))
  have h3 : k=W.heap.size:=by simpa [Value.ownBlock] using he
  have:=hk.2.2.1
  omega
end Kd
end
end Go.Proofs.YtncdiodnbkhacaaDoorW.PrintWords
end
section
namespace Go.Proofs.YtncdiodnbkhacaaDoorW.PrintLast
section
variable {P : Program} {ops : Array Oper} {Q : Exit→Act→World→Prop} {md : Region.Mode} {S : World→Prop} {ds : List Nat}
def Region.reachB (md : Region.Mode) (ops : Array Oper) (i : Nat) : Nat→Nat→Bool
|0,_=>false
|fuel+1,d=>match ops[d]? with
 |some o=>o.after.any fun e=>Region.binds md e && (e.on == i || Region.reachB md ops i fuel e.on)
 |none=>false
def Region.closedB (md : Region.Mode) (ops : Array Oper) (listed : Array Bool) : Bool :=
 (List.range ops.size).all fun j=>!listed.getD j false || match ops[j]? with
 |some o=>o.after.all fun e=>!Region.binds md e || listed.getD e.on false
 |none=>true
def Region.lastB (md : Region.Mode) (ops : Array Oper) (listed : Array Bool) (ds : List Nat) (i : Nat) : Bool :=
 ds.all fun d=>listed.getD d true || Region.reachB md ops i ops.size d
def ListedClosed (md : Region.Mode) (ops : Array Oper) (listed : Array Bool) : Prop :=
 ∀ j oj,ops[j]? = some oj→listed.getD j false=true → ∀ e∈oj.after,Region.binds md e=true→listed.getD e.on false=true
theorem Region.closedB_spec {listed : Array Bool} (h : Region.closedB md ops listed=true) : ListedClosed md ops listed:=by
 intro j oj hj hl e he hb
 have hlt : j < ops.size:=(Array.getElem?_eq_some_iff.1 hj).1
 have h1:=List.all_eq_true.1 h j (List.mem_range.2 hlt)
 simp only [hl,hj,Bool.not_true,Bool.false_or] at h1
 have h2:=Array.all_eq_true_iff_forall_mem.1 h1 e he
 simpa [hb] using h2
theorem ListedClosed.set {listed : Array Bool} {i : Nat} (h : ListedClosed md ops listed) (hi : i∈Region.ready md ops listed) : ListedClosed md ops (listed.setIfInBounds i true):=by
 obtain ⟨_,oi,hoi,hall⟩:=mem_ready.1 hi
 intro j oj hj hl e he hb
 by_cases hij : i=j
 ·subst hij
  have : oj=oi:=Option.some.inj (hj.symm.trans hoi)
  subst this
  exact getD_set_true (hall e he hb)
 ·rw [getD_set_ne false hij] at hl
  exact getD_set_true (h j oj hj hl e he hb)
theorem Region.reach_listed {listed : Array Bool} {i : Nat} (hc : ListedClosed md ops listed) : ∀ (fuel d : Nat),Region.reachB md ops i fuel d=true→listed.getD d false=true→listed.getD i false=true
|0,_,h,_=>by simp [Region.reachB] at h
|fuel+1,d,h,hl=>by
  unfold Region.reachB at h
  cases ho : ops[d]? with
 |none=>rw [ho] at h;simp at h
 |some o =>
   rw [ho] at h
   obtain ⟨e,he,h1⟩:=Array.any_eq_true'.1 h
   simp only [Bool.and_eq_true,Bool.or_eq_true,beq_iff_eq] at h1
   have hle:=hc d o ho hl e he h1.1
   rcases h1.2 with h2|h2
   ·rw [← h2];exact hle
   ·exact Region.reach_listed hc fuel e.on h2 hle
theorem Region.reach_not_ready {listed : Array Bool} {i d fuel : Nat} (hc : ListedClosed md ops listed) (hr : Region.reachB md ops i fuel d=true) (hun : listed.getD i true=false) : d ∉ Region.ready md ops listed:=by
 intro hd
 obtain ⟨_,o,ho,hall⟩:=mem_ready.1 hd
 have hi : listed.getD i false=true:=by
  cases fuel with
 |zero=>simp [Region.reachB] at hr
 |succ n =>
   unfold Region.reachB at hr
   rw [ho] at hr
   obtain ⟨e,he,h1⟩:=Array.any_eq_true'.1 hr
   simp only [Bool.and_eq_true,Bool.or_eq_true,beq_iff_eq] at h1
   have hle:=hall e he h1.1
   rcases h1.2 with h2|h2
   ·rw [← h2];exact hle
   ·exact Region.reach_listed hc n e.on h2 hle
 rcases Nat.lt_or_ge i listed.size with h'|h'
 ·simp [h'] at hun hi
  rw [hun] at hi
  cases hi
 ·simp [Array.getElem?_eq_none h'] at hun
def wpAnyLast (P : Program) (md : Region.Mode) (ops : Array Oper) (Q : Exit→Act→World→Prop) (S : World→Prop) (ds : List Nat) : Nat→Array Bool→Act→World→Prop
|0,listed,a,w=>Region.ready md ops listed=[]∧Q .normal a w
|fuel+1,listed,a,w =>
  (Region.ready md ops listed=[]→Q .normal a w) ∧
  ∀ i∈Region.ready md ops listed,wpOp P ops Q i (fun a' w'=>(i ∉ ds→S w→S w')∧wpAnyLast P md ops Q S ds fuel (listed.setIfInBounds i true) a' w') a w
theorem wpAny_of_last : ∀ (fuel : Nat) (listed : Array Bool) (a : Act) (w : World),wpAnyLast P md ops Q S ds fuel listed a w→wpAny P md ops Q fuel listed a w
|0,_,_,_,h=>h
|fuel+1,_,_,_,h=>⟨h.1,fun i hi=>wpOp_mono (fun a' w' h'=>wpAny_of_last fuel _ a' w' h'.2) (h.2 i hi)⟩
theorem wpAnyLast_first {i : Nat} {oi : Oper} {v : Value} (hi : ops[i]? = some oi) (hsel : ∀ (j : Nat) (o : Oper) cs b,ops[j]? = some o→o.op≠.select cs b)
  (hQ : ∀ c a w,Q (.panic c) (a.put oi.dst v) w→Q (.panic c) a w) (n : Nat) :
  ∀ (fuel : Nat) (listed : Array Bool) (a : Act) (w : World),
   (∀ j oj,ops[j]? = some oj→j≠i→listed.getD j true=false→(∀ e∈oj.after,Region.binds md e=true→e.on≠i)→oi.apart ops oj=true) →
   ListedClosed md ops listed→(∀ d∈ds,listed.getD d true=false→Region.reachB md ops i n d=true) →
   i∈Region.ready md ops listed→YieldsIf P ops S oi v a→S w →
   wpAnyLast P md ops Q S ds fuel (listed.setIfInBounds i true) (a.put oi.dst v) w→wpAnyLast P md ops Q S ds (fuel+1) listed a w:=by
 intro fuel
 induction fuel with
|zero =>
  intro listed a w _ _ _ hr hy hS H
  refine ⟨fun h=>(by rw [h] at hr;cases hr),fun j hj=>?_⟩
  by_cases hji : j=i
  ·subst hji;exact hy.wpOp hi hS ⟨fun _ h=>h,H⟩
  ·have:=ready_mono hj hji
   rw [H.1] at this
   cases this
|succ fuel ih =>
  intro listed a w hfree hc hd hr hy hS H
  refine ⟨fun h=>(by rw [h] at hr;cases hr),fun j hj=>?_⟩
  by_cases hji : j=i
  ·subst hji;exact hy.wpOp hi hS ⟨fun _ h=>h,H⟩
  ·have h1:=H.2 j (ready_mono hj hji)
   obtain ⟨hjun,oj,hoj,hall⟩:=mem_ready.1 hj
   have hiun:=(mem_ready.1 hr).1
   have hnot : ∀ e∈oj.after,Region.binds md e=true→e.on≠i:=fun e he hb heq=>by
    have h1:=hall e he hb
    rw [heq] at h1
    rcases Nat.lt_or_ge i listed.size with h'|h'
    ·simp [h'] at hiun h1;rw [hiun] at h1;cases h1
    ·simp [Array.getElem?_eq_none h'] at h1
   have hjd : j ∉ ds:=fun hm=>Region.reach_not_ready hc (hd j hm hjun) hiun hj
   have h2:=wpOp_putIf hoj (hfree j oj hoj hji hjun hnot) (fun cs b=>hsel i oi cs b hi) (fun cs b=>hsel j oj cs b hoj) hQ hy h1
   have hfree' : ∀ k ok,ops[k]? = some ok→k≠i→(listed.setIfInBounds j true).getD k true=false →
     (∀ e∈ok.after,Region.binds md e=true→e.on≠i)→oi.apart ops ok=true:=fun k ok hk hki hun hno=>by
    refine hfree k ok hk hki ?_ hno
    by_cases hjk : j=k
    ·subst hjk;exact hjun
    ·rw [getD_set_ne true hjk] at hun;exact hun
   have hd' : ∀ d∈ds,(listed.setIfInBounds j true).getD d true=false→Region.reachB md ops i n d=true:=fun d hm hun=>by
    refine hd d hm ?_
    by_cases hjk : j=d
    ·subst hjk;exact hjun
    ·rw [getD_set_ne true hjk] at hun;exact hun
   refine wpOp_mono (fun a' w' h3=>⟨h3.2.1,ih (listed.setIfInBounds j true) a' w' hfree' (hc.set hj) hd' (ready_mono hr (Ne.symm hji)) h3.1 (h3.2.1 hjd hS) ?_⟩) h2
   rw [Array.setIfInBounds_comm _ _ hji]
   exact h3.2.2
theorem wpAnyLast_any {i : Nat} {oi : Oper} {v : Value} (hi : ops[i]? = some oi) (hsel : ∀ (j : Nat) (o : Oper) cs b,ops[j]? = some o→o.op≠.select cs b)
  (hQ : ∀ c a w,Q (.panic c) (a.put oi.dst v) w→Q (.panic c) a w) :
  ∀ (fuel : Nat) (listed : Array Bool) (a : Act) (w : World),
   (∀ j oj,ops[j]? = some oj→j≠i→listed.getD j true=false→(∀ e∈oj.after,Region.binds md e=true→e.on≠i)→oi.apart ops oj=true) →
   i∈Region.ready md ops listed→Yields P ops oi v a →
   wpAnyLast P md ops Q S ds fuel (listed.setIfInBounds i true) (a.put oi.dst v) w→wpAnyLast P md ops Q S ds (fuel+1) listed a w:=by
 intro fuel
 induction fuel with
|zero =>
  intro listed a w _ hr hy H
  refine ⟨fun h=>(by rw [h] at hr;cases hr),fun j hj=>?_⟩
  by_cases hji : j=i
  ·subst hji;exact (hy.yieldsIf (S:=fun _=>True)).wpOp hi trivial ⟨fun _ h=>h,H⟩
  ·have:=ready_mono hj hji
   rw [H.1] at this
   cases this
|succ fuel ih =>
  intro listed a w hfree hr hy H
  refine ⟨fun h=>(by rw [h] at hr;cases hr),fun j hj=>?_⟩
  by_cases hji : j=i
  ·subst hji;exact (hy.yieldsIf (S:=fun _=>True)).wpOp hi trivial ⟨fun _ h=>h,H⟩
  ·have h1:=H.2 j (ready_mono hj hji)
   obtain ⟨hjun,oj,hoj,hall⟩:=mem_ready.1 hj
   have hiun:=(mem_ready.1 hr).1
   have hnot : ∀ e∈oj.after,Region.binds md e=true→e.on≠i:=fun e he hb heq=>by
    have h1:=hall e he hb
    rw [heq] at h1
    rcases Nat.lt_or_ge i listed.size with h'|h'
    ·simp [h'] at hiun h1;rw [hiun] at h1;cases h1
    ·simp [Array.getElem?_eq_none h'] at h1
   have h2:=wpOp_put hoj (hfree j oj hoj hji hjun hnot) (fun cs b=>hsel i oi cs b hi) (fun cs b=>hsel j oj cs b hoj) hQ hy h1
   have hfree' : ∀ k ok,ops[k]? = some ok→k≠i→(listed.setIfInBounds j true).getD k true=false →
     (∀ e∈ok.after,Region.binds md e=true→e.on≠i)→oi.apart ops ok=true:=fun k ok hk hki hun hno=>by
    refine hfree k ok hk hki ?_ hno
    by_cases hjk : j=k
    ·subst hjk;exact hjun
    ·rw [getD_set_ne true hjk] at hun;exact hun
   refine wpOp_mono (fun a' w' h3=>⟨h3.2.1,ih (listed.setIfInBounds j true) a' w' hfree' (ready_mono hr (Ne.symm hji)) h3.1 ?_⟩) h2
   rw [Array.setIfInBounds_comm _ _ hji]
   exact h3.2.2
theorem wpAnyLast_take {i : Nat} {oi : Oper} {v : Value} {fuel : Nat} {listed : Array Bool} {a : Act} {w : World} (hi : ops[i]? = some oi)
  (hs : Region.noSelect ops=true) (hf : Region.free md ops listed i=true) (hr : (Region.ready md ops listed).contains i=true)
  (hc : Region.closedB md ops listed=true) (hl : Region.lastB md ops listed ds i=true)
  (hQ : ∀ c a w,Q (.panic c) (a.put oi.dst v) w→Q (.panic c) a w) (hy : YieldsIf P ops S oi v a) (hS : S w)
  (h : wpAnyLast P md ops Q S ds fuel (listed.setIfInBounds i true) (a.put oi.dst v) w) : wpAnyLast P md ops Q S ds (fuel+1) listed a w :=
 wpAnyLast_first hi (Region.noSelect_spec hs) hQ ops.size fuel listed a w (Region.free_spec hi hf) (Region.closedB_spec hc)
  (fun d hm hun=>by have:=List.all_eq_true.1 hl d hm;rw [hun] at this;simpa using this) (by simpa using hr) hy hS h
theorem wpAnyLast_all {rs : List Nat} {fuel : Nat} {listed : Array Bool} {a : Act} {w : World} (hr : Region.ready md ops listed=rs) (hne : rs≠[])
  (h : ∀ i∈rs,wpOp P ops Q i (fun a' w'=>(i ∉ ds→S w→S w')∧wpAnyLast P md ops Q S ds fuel (listed.setIfInBounds i true) a' w') a w) : wpAnyLast P md ops Q S ds (fuel+1) listed a w :=
 ⟨fun h0=>absurd (hr ▸ h0) hne,hr ▸ h⟩
theorem wpAnyLast_done {listed : Array Bool} {a : Act} {w : World} (hr : Region.ready md ops listed=[]) (h : Q .normal a w) :
  ∀ fuel,wpAnyLast P md ops Q S ds fuel listed a w
|0=>⟨hr,h⟩
|_+1=>⟨fun _=>h,by rw [hr];simp⟩
theorem wp_region_last {id : Nat} {a : Act} {w : World} (hm : P.follows .mixedOrders=true)
  (h : wpAnyLast P .any ops Q S ds ops.size (Array.replicate ops.size false) a { w with drawn:=w.drawn+1 }) : (Code.region id ops true).wp P Q a w :=
 wp_region_any hm (wpAny_of_last _ _ _ _ h)
end
section
variable {P : Program} {ops : Array Oper} {Q : Exit→Act→World→Prop} {md : Region.Mode} {S : World→Prop} {ds : List Nat}
def AllReadyL (P : Program) (md : Region.Mode) (ops : Array Oper) (Q : Exit→Act→World→Prop) (S : World→Prop) (ds : List Nat) (fuel : Nat) (listed : Array Bool) (a : Act) (w : World) (rs : List Nat) : Prop :=
 ∀ i∈rs,wpOp P ops Q i (fun a' w'=>(i ∉ ds→S w→S w')∧wpAnyLast P md ops Q S ds fuel (listed.setIfInBounds i true) a' w') a w
theorem AllReadyL.nil {fuel : Nat} {listed : Array Bool} {a : Act} {w : World} : AllReadyL P md ops Q S ds fuel listed a w []:=fun _ h=>by cases h
theorem AllReadyL.cons {fuel : Nat} {listed : Array Bool} {a : Act} {w : World} {i : Nat} {o : Oper} {rs : List Nat} (ho : ops[i]? = some o) (hd : i ∉ ds)
  (h : ∀ K' : Act→World→Prop,Shut (∀ a w,S w→(S w→wpAnyLast P md ops Q S ds fuel (listed.setIfInBounds i true) a w)→K' a w)→if Region.wanted o (yielded ops a.tmps)=true then Oper.wp P o a w K' Q else K' (a.put o.dst undef) w)
  (hs : AllReadyL P md ops Q S ds fuel listed a w rs) : AllReadyL P md ops Q S ds fuel listed a w (i :: rs):=fun j hj=>by
 rcases List.mem_cons.1 hj with rfl|hj
 ·exact wpOp_step ho (fun K' hK=>h K' (fun a w hS hW=>hK a w ⟨fun _ _=>hS,hW hS⟩))
 ·exact hs j hj
theorem AllReadyL.cons_last {fuel : Nat} {listed : Array Bool} {a : Act} {w : World} {i : Nat} {o : Oper} {rs : List Nat} (ho : ops[i]? = some o) (hd : i∈ds)
  (h : ∀ K' : Act→World→Prop,Shut (∀ a w,wpAnyLast P md ops Q S ds fuel (listed.setIfInBounds i true) a w→K' a w)→if Region.wanted o (yielded ops a.tmps)=true then Oper.wp P o a w K' Q else K' (a.put o.dst undef) w)
  (hs : AllReadyL P md ops Q S ds fuel listed a w rs) : AllReadyL P md ops Q S ds fuel listed a w (i :: rs):=fun j hj=>by
 rcases List.mem_cons.1 hj with rfl|hj
 ·exact wpOp_step ho (fun K' hK=>h K' (fun a w hW=>hK a w ⟨fun hn=>absurd hd hn,hW⟩))
 ·exact hs j hj
theorem wpAnyLast_ready {rs : List Nat} {fuel : Nat} {listed : Array Bool} {a : Act} {w : World} (hr : Region.ready md ops listed=rs) (hne : rs≠[])
  (h : AllReadyL P md ops Q S ds fuel listed a w rs) : wpAnyLast P md ops Q S ds (fuel+1) listed a w:=wpAnyLast_all hr hne h
theorem start_ {id n : Nat} {a : Act} {w : World} (l : Array Bool) (hm : P.follows .mixedOrders=true) (hn : ops.size=n) (hl : Array.replicate n false=l) (hS : S w.drew)
  (h : S w.drew→wpAnyLast P .any ops Q S ds n l a w.drew) : (Code.region id ops true).wp P Q a w:=by
 subst hn
 subst hl
 exact wp_region_last hm (h hS)
def takeB (md : Region.Mode) (ops : Array Oper) (ds : List Nat) (l l' : Array Bool) (i : Nat) : Bool :=
 Region.noSelect ops && Region.free md ops l i && (Region.ready md ops l).contains i && Region.closedB md ops l && Region.lastB md ops l ds i && (l.setIfInBounds i true == l')
theorem take_ {i : Nat} {N : Option Tmp} {oi : Oper} {v : Value} {fuel : Nat} {l : Array Bool} {a : Act} {w : World} (l' : Array Bool) (hi : ops[i]? = some oi) (hN : oi.dst=N) (hc : takeB md ops ds l l' i=true)
  (hQ : ∀ c a w,Q (.panic c) (a.put oi.dst v) w→Q (.panic c) a w) (hy : YieldsIf P ops S oi v a) (hS : S w) {a' : Act} (ha : a.put N v=a')
  (h : wpAnyLast P md ops Q S ds fuel l' a' w) : wpAnyLast P md ops Q S ds (fuel+1) l a w:=by
 subst ha
 subst hN
 simp only [takeB,Bool.and_eq_true,beq_iff_eq] at hc
 obtain ⟨⟨⟨⟨⟨h1,h2⟩,h3⟩,h4⟩,h5⟩,h6⟩:=hc
 subst h6
 exact wpAnyLast_take hi h1 h2 h3 h4 h5 hQ hy hS h
def anyB (md : Region.Mode) (ops : Array Oper) (l l' : Array Bool) (i : Nat) : Bool :=
 Region.noSelect ops && Region.free md ops l i && (Region.ready md ops l).contains i && (l.setIfInBounds i true == l')
theorem pure_ {i : Nat} {N : Option Tmp} {oi : Oper} {v : Value} {fuel : Nat} {l : Array Bool} {a : Act} {w : World} (l' : Array Bool) (hi : ops[i]? = some oi) (hN : oi.dst=N) (hc : anyB md ops l l' i=true)
  (hQ : ∀ c a w,Q (.panic c) (a.put oi.dst v) w→Q (.panic c) a w) (hy : Yields P ops oi v a) {a' : Act} (ha : a.put N v=a')
  (h : wpAnyLast P md ops Q S ds fuel l' a' w) : wpAnyLast P md ops Q S ds (fuel+1) l a w:=by
 subst ha
 subst hN
 simp only [anyB,Bool.and_eq_true,beq_iff_eq] at hc
 obtain ⟨⟨⟨h1,h2⟩,h3⟩,h6⟩:=hc
 subst h6
 exact wpAnyLast_any hi (Region.noSelect_spec h1) hQ fuel l a w (Region.free_spec hi h2) (by simpa using h3) hy h
def readyB (md : Region.Mode) (ops : Array Oper) (l l' : Array Bool) (i : Nat) : Bool:=(Region.ready md ops l == [i]) && (l.setIfInBounds i true == l')
theorem one_ {i : Nat} {N : Option Tmp} {oi : Oper} {fuel : Nat} {l : Array Bool} {a : Act} {w : World} (l' : Array Bool) (hi : ops[i]? = some oi) (hN : oi.dst=N) (hc : readyB md ops l l' i=true) (hd : i ∉ ds)
  (h : ∀ K : Act→World→Prop,Shut (∀ a' w',S w'→(S w'→wpAnyLast P md ops Q S ds fuel l' a' w')→K a' w')→if Region.wanted oi (yielded ops a.tmps)=true then Oper.wp P oi a w K Q else K (a.put N undef) w) :
  wpAnyLast P md ops Q S ds (fuel+1) l a w:=by
 subst hN
 simp only [readyB,Bool.and_eq_true,beq_iff_eq] at hc
 obtain ⟨h1,h2⟩:=hc
 subst h2
 exact wpAnyLast_ready h1 (by simp) (AllReadyL.cons hi hd (fun K hK=>h K hK) AllReadyL.nil)
theorem last_ {i : Nat} {N : Option Tmp} {oi : Oper} {fuel : Nat} {l : Array Bool} {a : Act} {w : World} (l' : Array Bool) (hi : ops[i]? = some oi) (hN : oi.dst=N) (hc : readyB md ops l l' i=true) (hd : i∈ds)
  (h : ∀ K : Act→World→Prop,Shut (∀ a' w',wpAnyLast P md ops Q S ds fuel l' a' w'→K a' w')→if Region.wanted oi (yielded ops a.tmps)=true then Oper.wp P oi a w K Q else K (a.put N undef) w) :
  wpAnyLast P md ops Q S ds (fuel+1) l a w:=by
 subst hN
 simp only [readyB,Bool.and_eq_true,beq_iff_eq] at hc
 obtain ⟨h1,h2⟩:=hc
 subst h2
 exact wpAnyLast_ready h1 (by simp) (AllReadyL.cons_last hi hd (fun K hK=>h K hK) AllReadyL.nil)
theorem done_ {l : Array Bool} {a : Act} {w : World} {n : Nat} (hr : (Region.ready md ops l == [])=true) (h : Q .normal a w) : wpAnyLast P md ops Q S ds n l a w:=wpAnyLast_done (by simpa using hr) h n
theorem norm_ {fuel : Nat} {l : Array Bool} {a a' : Act} {w : World} (ha : a=a') (h : wpAnyLast P md ops Q S ds fuel l a' w) : wpAnyLast P md ops Q S ds fuel l a w:=by
 subst ha
 exact h
theorem call_ {oi : Oper} {N : Option Tmp} {a : Act} {w : World} {K : Act→World→Prop} (f : FuncId) (args : Array Value) (hw : Region.wanted oi (yielded ops a.tmps)=true) (hN : oi.dst=N) (hrun : (execOp a.eval oi).run P w=.ok (.enter f args) w)
  (h : Calls P f args w fun e w'=>∃ v,e=.returned v∧K (a.put N v) w') : if Region.wanted oi (yielded ops a.tmps)=true then Oper.wp P oi a w K Q else K (a.put N undef) w:=by
 rw [if_pos hw]
 subst hN
 unfold Oper.wp
 rw [hrun,Oper.upon_enter]
 refine h.mono fun e w'' hh=>?_
 obtain ⟨v,rfl,hk⟩:=hh
 exact hk
theorem enters_ {f : FuncId} {fn : Func} (hf : P.funcs[f]? = some fn) (hname : (fn.name == "runtime.NumGoroutine")=false) (hb : fn.body.isSome=true) (args : Array Value) (w : World) : (callFunc f args).run P w=.ok (.enter f args) w:=by
 have h1 : fn.name ≠ "runtime.NumGoroutine":=by simpa using hname
 obtain ⟨c,hc⟩:=Option.isSome_iff_exists.1 hb
 simp [callFunc,hf,h1,hc]
theorem goes_ {oi : Oper} {N : Option Tmp} {a : Act} {w : World} {K : Act→World→Prop} {f : FuncId} {fn : Func} {as_ : Array Operand} {ts : Array TypeId} (hf : P.funcs[f]? = some fn) (hname : (fn.name == "runtime.NumGoroutine")=false) (hb : fn.body.isSome=true) (args : Array Value)
  (hw : Region.wanted oi (yielded ops a.tmps)=true) (hN : oi.dst=N) (hop : oi.op=.call { callee:=.value (.func f),args:=as_,argTypes:=ts }) (hargs : as_.map a.eval=args)
  (h : Calls P f args w fun e w'=>∃ v,e=.returned v∧K (a.put N v) w') : if Region.wanted oi (yielded ops a.tmps)=true then Oper.wp P oi a w K Q else K (a.put N undef) w:=by
 refine call_ f args hw hN ?_ h
 have he:=enters_ hf hname hb args w
 unfold execOp
 simp [hop,resolve,Deferred.ofValue,invoke,Act.eval,hargs,he]
theorem goesL_ {rest : List Oper} {oi : Oper} {a : Act} {w : World} (N : Option Tmp) (hd : oi.dst=N) (hg : oi.guard=none) {f : FuncId} {fn : Func} {as_ : Array Operand} {ts : Array TypeId} (hf : P.funcs[f]? = some fn) (hname : (fn.name == "runtime.NumGoroutine")=false) (hb : fn.body.isSome=true) (args : Array Value)
  (hop : oi.op=.call { callee:=.value (.func f),args:=as_,argTypes:=ts }) (hargs : as_.map a.eval=args)
  (h : Calls P f args w fun e w'=>∃ v,e=.returned v∧wpList P ops Q rest (a.put N v) w') : wpList P ops Q (oi :: rest) a w:=by
 refine wpList_plain hg fun K hK=>?_
 have he:=enters_ hf hname hb args w
 have hrun : (execOp a.eval oi).run P w=.ok (.enter f args) w:=by
  unfold execOp
  simp [hop,resolve,Deferred.ofValue,invoke,Act.eval,hargs,he]
 unfold Oper.wp
 rw [hrun,Oper.upon_enter]
 refine h.mono fun e w'' hh=>?_
 obtain ⟨v,rfl,hk⟩:=hh
 subst hd
 exact hK _ _ hk
theorem value_ {oi : Oper} {N : Option Tmp} {a : Act} {w w1 : World} {v : Value} {K : Act→World→Prop} (hw : Region.wanted oi (yielded ops a.tmps)=true) (hN : oi.dst=N) (hrun : (execOp a.eval oi).run P w=.ok (.value v) w1)
  (h : K (a.put N v) w1) : if Region.wanted oi (yielded ops a.tmps)=true then Oper.wp P oi a w K Q else K (a.put N undef) w:=by
 rw [if_pos hw]
 subst hN
 unfold Oper.wp
 rw [hrun]
 exact h
theorem skip_ {oi : Oper} {a : Act} {w w1 : World} {K : Act→World→Prop} (hw : Region.wanted oi (yielded ops a.tmps)=true) (hN : oi.dst=none) (hrun : (execOp a.eval oi).run P w=.ok .skip w1)
  (h : K a w1) : if Region.wanted oi (yielded ops a.tmps)=true then Oper.wp P oi a w K Q else K (a.put none undef) w:=by
 rw [if_pos hw]
 unfold Oper.wp
 rw [hrun]
 show K (a.put oi.dst undef) w1
 rw [hN]
 exact h
theorem i64_w (n : Int) : IntKind.i64.wrap n=Go.RowKit.wrap64 n:=by unfold Go.RowKit.wrap64;exact IntKind.wrap_i64 n
theorem i32_w (n : Int) : IntKind.i32.wrap n=Go.RowKit.wrap32 n:=by unfold Go.RowKit.wrap32;exact IntKind.wrap_i32 n
end
end Go.Proofs.YtncdiodnbkhacaaDoorW.PrintLast
end
section
namespace Go.Proofs.YtncdiodnbkhacaaDoorW.PrintWords
open Go.RowKit
namespace Kd
def tag {α : Type} (f : Nat→Nat) (d : Kd α) : Kd (α × Nat) where
 sz:=d.sz
 E:=d.E
 K:=fun w x cs=>d.K w x.1 cs
 M:=fun w base ok x cs=>d.M w base (fun k=>ok k∧f k=x.2) x.1 cs
 K_len:=fun h=>d.K_len h
 K_one:=fun h=>d.K_one h
 K_below:=fun hb h=>d.K_below hb h
 K_of_M:=fun h=>d.K_of_M h
 M_mono:=fun hok h=>d.M_mono (fun k hk=>⟨hok k hk.1,hk.2⟩) h
 M_bound:=fun h=>d.M_mono (fun _ hk=>⟨⟨hk.1.1,hk.2⟩,hk.1.2⟩) (d.M_bound h)
 M_move:=fun hm h=>d.M_move (fun k hk=>hm k hk.1) h
 M_lower:=fun hb h=>d.M_lower hb h
def raw (sz : Nat) : Kd (List Value) where
 sz:=sz
 E:=[]
 K:=fun _ x cs=>cs=x∧cs.length=sz ∧ ∀ u∈cs,u.oneCell'=true
 M:=fun _ _ _ x cs=>cs=x∧cs.length=sz ∧ ∀ u∈cs,u.oneCell'=true
 K_len:=fun h=>h.2.1
 K_one:=fun h=>h.2.2
 K_below:=fun _ h=>h
 K_of_M:=fun h=>h
 M_mono:=fun _ h=>h
 M_bound:=fun h=>h
 M_move:=fun _ h=>h
 M_lower:=fun _ h=>h
def S {α : Type} (d : Kd α) (e : Nat) (w : World) (base : Nat) (ok : Nat→Prop) (v : Value) (xs : List α) : Prop:=∃ f,(tag f d).R e w base ok v xs.zipIdx
section
variable {α β : Type} {d : Kd α} {d' : Kd β} {e e' : Nat} {w w1 W : World} {base b : Nat} {ok ok' okv oku : Nat→Prop} {u v : Value} {xs : List α} {ys : List β}
theorem R_tight (hE : d.E=[]) (h : d.R e w base ok v xs) : d.R e w base (fun k=>some k=v.ownBlock) v xs:=by
 obtain ⟨h0,inner,ho,hr⟩:=h
 refine ⟨fun k hk=>hk.symm,inner,ho,hr.imp_ (fun p c hp=>d.M_mono (fun k hk=>?_) (d.M_bound hp))⟩
 obtain ⟨_,_,_,q,hq,_⟩:=hk
 rw [hE] at hq
 cases hq
theorem S_nil (d : Kd α) (e : Nat) (w : World) (base : Nat) (ok : Nat→Prop) : S d e w base ok (.slice none 0 0) []:=⟨fun _=>0,R_nil _ _ _ _ _⟩
end
def gap {α : Type} (f : Nat→Nat) (d : Kd α) (i : Nat) (c : List Value) : Kd (α × Nat) where
 sz:=d.sz
 E:=d.E
 K:=fun w x cs=>(x.2=i→cs=c∧cs.length=d.sz ∧ ∀ u∈cs,u.oneCell'=true)∧(x.2≠i→d.K w x.1 cs)
 M:=fun w base ok x cs=>(x.2=i→cs=c∧cs.length=d.sz ∧ ∀ u∈cs,u.oneCell'=true)∧(x.2≠i→d.M w base (fun k=>ok k∧f k=x.2) x.1 cs)
 K_len:=fun {w x cs} h=>by
  by_cases hx : x.2=i
  ·exact (h.1 hx).2.1
  ·exact d.K_len (h.2 hx)
 K_one:=fun {w x cs} h=>by
  by_cases hx : x.2=i
  ·exact (h.1 hx).2.2
  ·exact d.K_one (h.2 hx)
 K_below:=fun hb h=>⟨h.1,fun hx=>d.K_below hb (h.2 hx)⟩
 K_of_M:=fun h=>⟨h.1,fun hx=>d.K_of_M (h.2 hx)⟩
 M_mono:=fun hok h=>⟨h.1,fun hx=>d.M_mono (fun k hk=>⟨hok k hk.1,hk.2⟩) (h.2 hx)⟩
 M_bound:=fun h=>⟨h.1,fun hx=>d.M_mono (fun _ hk=>⟨⟨hk.1.1,hk.2⟩,hk.1.2⟩) (d.M_bound (h.2 hx))⟩
 M_move:=fun hm h=>⟨h.1,fun hx=>d.M_move (fun k hk=>hm k hk.1) (h.2 hx)⟩
 M_lower:=fun hb h=>⟨h.1,fun hx=>d.M_lower hb (h.2 hx)⟩
def H {α : Type} (d : Kd α) (e : Nat) (w : World) (base : Nat) (ok : Nat→Prop) (v : Value) (xs : List α) (i : Int) (oki : Nat→Prop) (c : List Value) : Prop :=
 (∀ k,oki k→ok k) ∧ ∃ f,(gap f d i.toNat c).R e w base (fun k=>ok k∧¬ oki k) v xs.zipIdx
end Kd
end Go.Proofs.YtncdiodnbkhacaaDoorW.PrintWords
end
section
namespace Go.Proofs.YtncdiodnbkhacaaDoorW.PrintWords
open Go.RowKit
namespace Kd
structure Heap {α : Type} (d : Kd α) : Prop where
 K : ∀ {w w1 : World} {x : α} {cs : List Value},(∀ k,k < w.heap.size→w1.heap[k]? = w.heap[k]?)→d.K w x cs→d.K w1 x cs
theorem cell_heap {w w1 : World} (hb : ∀ k,k < w.heap.size→w1.heap[k]? = w.heap[k]?) {a : Addr} {v : Value} (h : w.cell? a=some v) : w1.cell? a=some v:=by
 have:=hb a.block (World.block_lt_of_cell? w a h)
 simpa [World.cell?,this] using h
theorem Heap.C {α : Type} {d : Kd α} (hd : Heap d) {w w1 : World} {A : Option Addr} {n : Nat} {xs : List α} (hb : ∀ k,k < w.heap.size→w1.heap[k]? = w.heap[k]?) (h : d.C w A n xs) : d.C w1 A n xs :=
 ⟨h.1,h.2.1,fun hn=>by
  obtain ⟨ad,e,hc⟩:=h.2.2 hn
  refine ⟨ad,e,fun j p hj=>?_⟩
  obtain ⟨c,hs,hr,hcell⟩:=hc j p hj
  exact ⟨c,hs,hd.K hb hr,fun i u hu=>cell_heap hb (hcell i u hu)⟩⟩
theorem heap_int (k : IntKind) : Heap (Kd.int k):=⟨fun _ h=>h⟩
end Kd
end Go.Proofs.YtncdiodnbkhacaaDoorW.PrintWords
end
section
namespace Go.Proofs.YtncdiodnbkhacaaDoorW.PrintWords
open Go.RowKit
def Kept (w W : World) (S : Nat→Prop) : Prop:=w.heap.size≤W.heap.size ∧ ∀ i,i < w.heap.size→¬ S i→W.heap[i]? = w.heap[i]?
section
variable {w W W2 : World} {S S2 S' : Nat→Prop}
theorem Kept.refl (w : World) (S : Nat→Prop) : Kept w w S:=⟨Nat.le_refl _,fun _ _ _=>rfl⟩
theorem Kept.of_below (h : Below w.heap.size w W) (S : Nat→Prop) : Kept w W S:=⟨h.size,fun i hi _=>h.block i hi⟩
theorem Kept.mono (h : Kept w W S) (hs : ∀ k,S k→S' k) : Kept w W S':=⟨h.1,fun i hi hn=>h.2 i hi (fun hk=>hn (hs i hk))⟩
theorem Kept.then_ (h : Kept w W S) (k : Kept W W2 S2) (hs : ∀ k,S2 k→S k∨w.heap.size≤k) : Kept w W2 S :=
 ⟨Nat.le_trans h.1 k.1,fun i hi hn=>(k.2 i (Nat.lt_of_lt_of_le hi h.1) (fun h2=>(hs i h2).elim hn (fun h3=>by omega))).trans (h.2 i hi hn)⟩
theorem Kept.of_grown {row : Option Nat} (hg : W.grownBy W2 row) (h : Kept w W S) (hr : ∀ k,row=some k→S k∨w.heap.size≤k) : Kept w W2 S :=
 h.then_ (S2:=fun k=>row=some k) ⟨hg.size,fun i hi hn=>hg.block i hi (fun he=>hn he.symm)⟩ hr
theorem Kept.below (h : Kept w W S) (hb : Below W.heap.size W W2) : Kept w W2 S:=h.then_ (Kept.of_below hb (fun _=>False)) (fun _ hk=>hk.elim)
theorem Kept.alloc (h : Kept w W S) (o : Obj) : Kept w (W.alloc o) S:=h.below (below_alloc (Below.refl _ _) o)
theorem Kept.drew (h : Kept w W S) : Kept w W.drew S:=h
theorem Kept.drewN (h : Kept w W S) (m : Nat) : Kept w (W.drewN m) S:=h
theorem Kept.setCell (h : Kept w W S) {p : Addr} (hp : S p.block∨w.heap.size≤p.block) (u : Value) : Kept w (W.setCell p u) S :=
 h.then_ (S2:=fun k=>k=p.block) ⟨by simp [World.setCell],fun i _ hn=>Below.heap_setCell W p u i hn⟩ (fun k hk=>by rw [hk];exact hp)
end
namespace Kd
section
variable {α : Type} {d : Kd α} {e base n c : Nat} {ok oki S S2 : Nat→Prop} {w w0 W W1 W2 : World} {v : Value} {A : Option Addr} {xs : List α} {i : Int} {cs : List Value}
theorem R_kept (h : d.R e W base ok v xs) (hk : Kept W W2 S) (hne : ∀ k,ok k→¬ S k) : d.R e W2 base ok v xs:=R_step h (fun k ho hlt=>hk.2 k hlt (hne k ho))
theorem C_kept_own (h : d.R e W base ok (.slice A n c) xs) (hok : ∀ k,ok k→¬ S k) : ∀ W',Kept W W' S→d.C W' A n xs:=fun W' hk=>by
 have h2:=R_reads' (R_kept h hk hok)
 rw [h2.1]
 exact h2.2.2
theorem C_kept_came (hd : Heap d) (h : d.C w0 A n xs) (hb : Below w0.heap.size w0 W) (hS : ∀ k,S k→w0.heap.size≤k) : ∀ W',Kept W W' S→d.C W' A n xs:=fun W' hk =>
 hd.C (fun k hlt=>(hk.2 k (Nat.lt_of_lt_of_le hlt hb.size) (fun h2=>by have:=hS k h2;omega)).trans (hb.block k hlt)) h
end
end Kd
end Go.Proofs.YtncdiodnbkhacaaDoorW.PrintWords
end
section
namespace Go.Proofs.YtncdiodnbkhacaaDoorW.PrintWords
open Go.RowKit
def Foot (P : World→Prop) (W : World) (ok : Nat→Prop) : Prop:=∀ W' : World,(∀ k,ok k→k < W.heap.size→W'.heap[k]? = W.heap[k]?)→P W'
theorem heap_lt {W W1 : World} {k : Nat} (h : W1.heap[k]? = W.heap[k]?) (hlt : k < W.heap.size) : k < W1.heap.size:=by
 rw [Array.getElem?_eq_getElem hlt] at h
 exact (Array.getElem?_eq_some_iff.1 h).1
namespace Foot
variable {P Q : World→Prop} {W W1 : World} {ok ok' : Nat→Prop}
theorem now (h : Foot P W ok) : P W:=h W (fun _ _ _=>rfl)
theorem mono (h : Foot P W ok) (hok : ∀ k,ok k→ok' k) : Foot P W ok':=fun W' hW=>h W' (fun k hk hlt=>hW k (hok k hk) hlt)
theorem bound (h : Foot P W ok) : Foot P W (fun k=>ok k∧k < W.heap.size):=fun W' hW=>h W' (fun k hk hlt=>hW k ⟨hk,hlt⟩ hlt)
theorem step (h : Foot P W ok) (hm : ∀ k,ok k→k < W.heap.size→W1.heap[k]? = W.heap[k]?) : Foot P W1 ok:=fun W' hW=>h W' (fun k hk hlt=>(hW k hk (heap_lt (hm k hk hlt) hlt)).trans (hm k hk hlt))
theorem imp (h : Foot P W ok) (hi : ∀ W',P W'→Q W') : Foot Q W ok:=fun W' hW=>hi W' (h W' hW)
theorem old (h : Foot P W ok) (hb : Below W.heap.size W W1) : Foot P W1 (fun k=>ok k∧k < W.heap.size):=(h.bound).step (fun k _ hlt=>hb.block k hlt)
end Foot
namespace Kd
def F {α : Type} (d : Kd α) (W : World) (ok : Nat→Prop) (A : Option Addr) (n : Nat) (xs : List α) : Prop:=Foot (fun W=>d.C W A n xs) W ok
def FK {α : Type} (d : Kd α) (W : World) (ok : Nat→Prop) (x : α) (c : List Value) : Prop:=Foot (fun W=>d.K W x c) W ok
section
variable {α β : Type} {d : Kd α} {e base n n' cc g N : Nat} {ok ok' okp S : Nat→Prop} {w w0 w1 W W1 : World} {A A' : Option Addr} {u v v1 : Value} {xs : List α} {xs' : List β} {d' : Kd β} {x : α} {c : List Value}
theorem F_now (h : F d W ok A n xs) : d.C W A n xs:=Foot.now h
theorem F_mono (h : F d W ok A n xs) (hok : ∀ k,ok k→ok' k) : F d W ok' A n xs:=Foot.mono h hok
theorem F_step (h : F d W ok A n xs) (hm : ∀ k,ok k→k < W.heap.size→W1.heap[k]? = W.heap[k]?) : F d W1 ok A n xs:=Foot.step h hm
theorem F_below (h : F d W ok A n xs) (hb : Below W.heap.size W W1) : F d W1 ok A n xs:=F_step h (fun k _ hlt=>hb.block k hlt)
theorem F_alloc (h : F d W ok A n xs) (o : Obj) : F d (W.alloc o) ok A n xs:=F_below h (below_alloc (Below.refl _ _) o)
theorem F_drew (h : F d W ok A n xs) : F d W.drew ok A n xs:=F_below h (below_drew (Below.refl _ _))
theorem F_drewN (h : F d W ok A n xs) (m : Nat) : F d (W.drewN m) ok A n xs:=F_below h (pw_below_drewN (Below.refl _ _) m)
theorem F_nil (d : Kd α) (W : World) (ok : Nat→Prop) : F d W ok none ([] : List α).length []:=fun W' _=>C_nil d W'
theorem F_elder' (h : F d W ok A n xs) (hbase : ∀ k,v.ownBlock=some k→W.heap.size≤k) (hb : Below W.heap.size W W1) : F d W1 (fun k=>ok k∧some k≠v.ownBlock) A n xs :=
 F_mono (Foot.old h hb) (fun k hk=>⟨hk.1,fun he=>by have:=hbase k he.symm;have:=hk.2;omega⟩)
theorem F_old (h : F d W ok A n xs) (hb : Below W.heap.size W W1) : F d W1 (fun k=>ok k∧k < W.heap.size) A n xs:=Foot.old h hb
theorem F_told (h : F d W1 (fun k=>ok k∧k < N) A n xs) (hbase : ∀ k,v.ownBlock=some k→N≤k) : F d W1 (fun k=>(ok k∧some k≠v.ownBlock)∧k < N) A n xs :=
 F_mono h (fun k hk=>⟨⟨hk.1,fun he=>Nat.lt_irrefl _ (Nat.lt_of_lt_of_le hk.2 (hbase k he.symm))⟩,hk.2⟩)
theorem C_F (hd : Heap d) (h : d.C w A n xs) : F d w (fun k=>k < w.heap.size) A n xs:=fun _ hW=>hd.C (fun k hlt=>hW k hlt hlt) h
theorem R_F (h : d.R e W base ok (.slice A n cc) xs) : F d W ok A n xs:=fun W' hW=>by
 have h2:=R_reads' (R_step h hW)
 rw [h2.1]
 exact h2.2.2
theorem FK_of_M (h : d.M W base ok x c) : FK d W ok x c:=fun _ hW=>d.K_of_M (M_step h hW)
end
end Kd
end Go.Proofs.YtncdiodnbkhacaaDoorW.PrintWords
end
section
namespace Go.Proofs.YtncdiodnbkhacaaDoorW.PrintWords
open Go.RowKit
namespace Kd
def chunks (sz : Nat) (n : Nat) (inner : List Value) : List (List Value):=(List.range n).map fun j=>(inner.drop (j * sz)).take sz
theorem chunks_length (sz n : Nat) (inner : List Value) : (chunks sz n inner).length=n:=by simp [chunks]
theorem chunks_at {sz n : Nat} {inner : List Value} {j : Nat} (hj : j < n) : (chunks sz n inner)[j]? = some ((inner.drop (j * sz)).take sz):=by simp [chunks,hj]
theorem chunks_get {sz n : Nat} {inner : List Value} {j : Nat} {c : List Value} (h : (chunks sz n inner)[j]? = some c) : c=(inner.drop (j * sz)).take sz:=by
 have hj : j < n:=by have:=(List.getElem?_eq_some_iff.1 h).1;rwa [chunks_length] at this
 rw [chunks_at hj] at h
 injection h with h
 exact h.symm
theorem reps_raw {α : Type} {Rr : α→List Value→Prop} {sz : Nat} {xs : List α} {inner : List Value} (h : Reps Rr sz xs inner) (hR : ∀ x c,Rr x c→c.length=sz ∧ ∀ u∈c,u.oneCell'=true) : Reps (fun x cs=>cs=x∧cs.length=sz ∧ ∀ u∈cs,u.oneCell'=true) sz (chunks sz xs.length inner) inner:=by
 refine ⟨by rw [chunks_length];exact h.1,fun j p hj=>?_⟩
 have hjl : j < xs.length:=by have:=(List.getElem?_eq_some_iff.1 hj).1;rwa [chunks_length] at this
 have hp:=chunks_get hj
 exact ⟨hp.symm,hR _ _ (h.2 j _ (List.getElem?_eq_getElem hjl))⟩
section
variable {α : Type} {d : Kd α} {e base n cc g : Nat} {ok ok' okp S : Nat→Prop} {w w1 W W1 : World} {A : Option Addr} {u v v1 : Value} {xs : List α} {x : α} {c : List Value}
def N {α : Type} (d : Kd α) (e : Nat) (w : World) (base : Nat) (ok : Nat→Prop) (v : Value) (xs : List α) : Prop :=
 (∀ k,v.ownBlock=some k→ok k) ∧ ∃ rows : List (List Value),rows.length=xs.length∧(raw d.sz).R e w base (fun k=>some k=v.ownBlock) v rows ∧ ∀ (j : Nat) (x : α) (c : List Value),xs[j]? = some x→rows[j]? = some c→FK d w (fun k=>ok k∧some k≠v.ownBlock) x c
theorem R_N (h : d.R e w base ok v xs) : N d e w base ok v xs:=by
 obtain ⟨h0,inner,ho,hr⟩:=h
 refine ⟨h0,chunks d.sz xs.length inner,chunks_length _ _ _,⟨fun k hk=>hk.symm,inner,by rw [chunks_length];exact ho,reps_raw hr (fun x c hp=>⟨d.K_len (d.K_of_M hp),d.K_one (d.K_of_M hp)⟩)⟩,fun j x c hx hc=>?_⟩
 rw [chunks_get hc]
 exact FK_of_M (hr.2 j x hx)
theorem N_nil (d : Kd α) (e : Nat) (w : World) (base : Nat) (ok : Nat→Prop) : N d e w base ok (.slice none 0 0) []:=R_N (R_nil _ _ _ _ _)
end
end Kd
end Go.Proofs.YtncdiodnbkhacaaDoorW.PrintWords
end
section
namespace Go.Proofs.YtncdiodnbkhacaaDoorW.PrintWords
open Go.RowKit
section
variable {w w' u : World} {m B g : Nat} {o : Obj} {row : Option Nat} {S : Nat→Prop} {a : Addr} {v : Value}
theorem below_at (hq : w.drewN m=w') (h : Below B u w) : Below B u w':=by subst hq;exact pw_below_drewN h m
end
namespace Kd
section
variable {α : Type} {d : Kd α} {e base n m : Nat} {ok : Nat→Prop} {w w' : World} {v : Value} {A : Option Addr} {xs : List α}
theorem R_at (hq : w.drewN m=w') (h : d.R e w base ok v xs) : d.R e w' base ok v xs:=by subst hq;exact R_drewN h m
end
end Kd
end Go.Proofs.YtncdiodnbkhacaaDoorW.PrintWords
end
section
namespace Go.Proofs.YtncdiodnbkhacaaDoorW.PrintLast
open Go.Proofs.YtncdiodnbkhacaaDoorW.PrintWords (Aside0)
def needsOf (md : Region.Mode) (o : Oper) : List Nat:=(o.after.toList.filter (fun e=>Region.binds md e)).map (fun e=>e.on)
def clashOf (md : Region.Mode) (ops : Array Oper) (i : Nat) (oi : Oper) : List Nat:=(List.range ops.size).filter fun j=>!(j == i) && match ops[j]? with
|some oj=>!(oj.after.any (fun e=>Region.binds md e && e.on == i) || oi.apart ops oj)
|none=>false
def rtab (md : Region.Mode) (ops : Array Oper) : Bool × List (List Nat × List Nat):=(Region.noSelect ops,(List.range ops.size).map fun i=>match ops[i]? with
|some o=>(needsOf md o,clashOf md ops i o)
|none=>([],[]))
def readyAt (T : List (List Nat × List Nat)) (l : List Bool) (i : Nat) : Bool:=!l.getD i true && match T[i]? with
|some r=>r.1.all (fun j=>l.getD j false)
|none=>false
def readyT (T : List (List Nat × List Nat)) (l : List Bool) : List Nat:=(List.range T.length).filter (readyAt T l)
def freeT (T : List (List Nat × List Nat)) (l : List Bool) (i : Nat) : Bool:=match T[i]? with
|some r=>r.2.all (fun j=>l.getD j true)
|none=>false
def closedT (T : List (List Nat × List Nat)) (l : List Bool) : Bool:=(List.range T.length).all fun j=>!l.getD j false || match T[j]? with
|some r=>r.1.all (fun k=>l.getD k false)
|none=>true
def reachT (T : List (List Nat × List Nat)) (i : Nat) : Nat→Nat→Bool
|0,_=>false
|fuel+1,d=>match T[d]? with
 |some r=>r.1.any fun j=>j == i || reachT T i fuel j
 |none=>false
def lastT (T : List (List Nat × List Nat)) (l : List Bool) (ds : List Nat) (i : Nat) : Bool:=ds.all fun d=>l.getD d true || reachT T i T.length d
section
variable {md : Region.Mode} {ops : Array Oper} {T : Bool × List (List Nat × List Nat)} {l l' li lj lk : Array Bool} {ds : List Nat} {i j k : Nat}
theorem gd (l : Array Bool) (j : Nat) (b : Bool) : l.getD j b=l.toList.getD j b:=by simp [Array.getD_eq_getD_getElem?,List.getD_eq_getElem?_getD]
theorem needs_all (o : Oper) (p : Nat→Bool) : o.after.all (fun e=>!Region.binds md e || p e.on)=(needsOf md o).all p:=by
 unfold needsOf
 rw [← Array.all_toList]
 induction o.after.toList with
|nil=>rfl
|cons e r ih =>
  rw [List.all_cons,ih,List.filter_cons]
  cases h : Region.binds md e <;> simp
theorem needs_any (o : Oper) (p : Nat→Bool) : o.after.any (fun e=>Region.binds md e && p e.on)=(needsOf md o).any p:=by
 unfold needsOf
 rw [← Array.any_toList]
 induction o.after.toList with
|nil=>rfl
|cons e r ih =>
  rw [List.any_cons,ih,List.filter_cons]
  cases h : Region.binds md e <;> simp
theorem rtab_length : (rtab md ops).2.length=ops.size:=by simp [rtab]
theorem rtab_some {o : Oper} (h : ops[i]? = some o) : (rtab md ops).2[i]? = some (needsOf md o,clashOf md ops i o):=by
 have hi:=(Array.getElem?_eq_some_iff.1 h).1
 unfold rtab
 rw [List.getElem?_map,List.getElem?_range hi,Option.map_some,h]
theorem rtab_none (h : ops[i]? = none) : (rtab md ops).2[i]? = none:=by
 have hi : ops.size≤i:=Array.getElem?_eq_none_iff.1 h
 exact List.getElem?_eq_none (by rw [rtab_length];exact hi)
theorem readyAt_eq : readyAt (rtab md ops).2 l.toList i=(!l.getD i true && ((ops[i]?).map (·.after.all fun e=>!Region.binds md e || l.getD e.on false)).getD false):=by
 unfold readyAt
 rw [gd]
 cases h : ops[i]? with
|none=>rw [rtab_none h];rfl
|some o =>
  rw [rtab_some h]
  simp only [Option.map_some,Option.getD_some]
  rw [← needs_all]
  simp only [gd]
theorem ready_eq : Region.ready md ops l=readyT (rtab md ops).2 l.toList:=by
 unfold Region.ready readyT
 rw [rtab_length]
 refine List.filter_congr (fun i _=>?_)
 rw [readyAt_eq]
theorem free_eq : Region.free md ops l i=freeT (rtab md ops).2 l.toList i:=by
 unfold Region.free freeT
 cases h : ops[i]? with
|none=>rw [rtab_none h]
|some oi =>
  rw [rtab_some h]
  simp only [clashOf]
  rw [List.all_filter]
  congr 1
  funext j
  rw [gd]
  cases hj : ops[j]? with
 |none=>cases (j == i) <;> cases (l.toList.getD j true) <;> simp
 |some oj =>
   cases (j == i) <;> cases (l.toList.getD j true) <;> cases (oj.after.any (fun e=>Region.binds md e && e.on == i) || oi.apart ops oj) <;> simp_all
theorem closed_eq : Region.closedB md ops l=closedT (rtab md ops).2 l.toList:=by
 unfold Region.closedB closedT
 rw [rtab_length]
 congr 1
 funext j
 rw [gd]
 cases h : ops[j]? with
|none=>rw [rtab_none h]
|some o =>
  rw [rtab_some h]
  simp only
  rw [← needs_all]
  simp only [gd]
theorem reach_eq : ∀ (fuel d : Nat),Region.reachB md ops i fuel d=reachT (rtab md ops).2 i fuel d
|0,_=>rfl
|fuel+1,d=>by
  unfold Region.reachB reachT
  cases h : ops[d]? with
 |none=>rw [rtab_none h]
 |some o =>
   rw [rtab_some h]
   simp only
   rw [← needs_any]
   congr 1
   funext e
   rw [reach_eq fuel]
theorem last_eq : Region.lastB md ops l ds i=lastT (rtab md ops).2 l.toList ds i:=by
 unfold Region.lastB lastT
 rw [rtab_length]
 congr 1
 funext d
 rw [gd,reach_eq]
theorem readyAt_mem (h : readyAt T.2 l.toList i=true) (hT : rtab md ops=T) : (Region.ready md ops l).contains i=true:=by
 subst hT
 rw [ready_eq]
 unfold readyT
 rw [List.contains_iff_mem,List.mem_filter,List.mem_range]
 refine ⟨?_,h⟩
 unfold readyAt at h
 rw [Bool.and_eq_true] at h
 cases hq : (rtab md ops).2[i]? with
|none=>rw [hq] at h;simp at h
|some r=>exact (List.getElem?_eq_some_iff.1 hq).1
theorem set_of (h : (l.toList.set i true == l'.toList)=true) : (l.setIfInBounds i true == l')=true:=by
 rw [beq_iff_eq] at h ⊢
 apply Array.ext'
 rw [Array.toList_setIfInBounds]
 exact h
def anyT (T : Bool × List (List Nat × List Nat)) (l l' : List Bool) (i : Nat) : Bool:=T.1 && freeT T.2 l i && readyAt T.2 l i && (l.set i true == l')
theorem any_of (hT : rtab md ops=T) (h : anyT T l.toList l'.toList i=true) : anyB md ops l l' i=true:=by
 simp only [anyT,Bool.and_eq_true] at h
 obtain ⟨⟨⟨h1,h2⟩,h3⟩,h4⟩:=h
 have h5:=readyAt_mem h3 hT
 have h6:=set_of h4
 subst hT
 simp only [anyB,Bool.and_eq_true]
 exact ⟨⟨⟨h1,by rw [free_eq];exact h2⟩,h5⟩,h6⟩
def takeT (T : Bool × List (List Nat × List Nat)) (ds : List Nat) (l l' : List Bool) (i : Nat) : Bool:=T.1 && freeT T.2 l i && readyAt T.2 l i && closedT T.2 l && lastT T.2 l ds i && (l.set i true == l')
theorem take_of (hT : rtab md ops=T) (h : takeT T ds l.toList l'.toList i=true) : takeB md ops ds l l' i=true:=by
 simp only [takeT,Bool.and_eq_true] at h
 obtain ⟨⟨⟨⟨⟨h1,h2⟩,h3⟩,h4⟩,h5⟩,h6⟩:=h
 have h7:=readyAt_mem h3 hT
 have h8:=set_of h6
 subst hT
 simp only [takeB,Bool.and_eq_true]
 exact ⟨⟨⟨⟨⟨h1,by rw [free_eq];exact h2⟩,h7⟩,by rw [closed_eq];exact h4⟩,by rw [last_eq];exact h5⟩,h8⟩
theorem one_of (hT : rtab md ops=T) (h : (readyT T.2 l.toList == [i] && l.toList.set i true == l'.toList)=true) : readyB md ops l l' i=true:=by
 simp only [Bool.and_eq_true] at h
 obtain ⟨h1,h2⟩:=h
 subst hT
 simp only [readyB,Bool.and_eq_true]
 exact ⟨by rw [ready_eq];exact h1,set_of h2⟩
theorem done_of (hT : rtab md ops=T) (h : (readyT T.2 l.toList == [])=true) : (Region.ready md ops l == [])=true:=by
 subst hT
 rw [ready_eq]
 exact h
def upM (B : List Nat) (d : Nat) : List Nat→Nat
|[]=>0
|n :: r=>(2 ^ n ||| (if n < d then B.getD n 0 else 0)) ||| upM B d r
def waitsOk (T : List (List Nat × List Nat)) (B : List Nat) : Bool:=(List.range T.length).all fun d=>match T[d]? with
|some r=>(B.getD d 0 ||| upM B d r.1) == upM B d r.1
|none=>false
theorem upM_bit {B : List Nat} {d i : Nat} : ∀ {ns : List Nat},(upM B d ns).testBit i=true → ∃ n∈ns,n=i∨(n < d∧(B.getD n 0).testBit i=true)
|[],h=>by simp [upM] at h
|n :: r,h=>by
  unfold upM at h
  rw [Nat.testBit_or,Nat.testBit_or,Bool.or_eq_true,Bool.or_eq_true] at h
  rcases h with (h|h)|h
  ·rw [Nat.testBit_two_pow] at h
   exact ⟨n,List.mem_cons_self,.inl (by simpa using h)⟩
  ·by_cases hn : n < d
   ·rw [if_pos hn] at h
    exact ⟨n,List.mem_cons_self,.inr ⟨hn,h⟩⟩
   ·rw [if_neg hn] at h
    simp at h
  ·obtain ⟨m,hm,h2⟩:=upM_bit h
   exact ⟨m,List.mem_cons_of_mem _ hm,h2⟩
theorem reach_bit {T : List (List Nat × List Nat)} {B : List Nat} (hB : waitsOk T B=true) : ∀ (fuel d : Nat),d < fuel→d < T.length→(B.getD d 0).testBit i=true→reachT T i fuel d=true
|0,d,h,_,_=>by omega
|fuel+1,d,h,hd,hb=>by
  have h1:=List.all_eq_true.1 hB d (List.mem_range.2 hd)
  cases hr : T[d]? with
 |none=>rw [hr] at h1;simp at h1
 |some r =>
   rw [hr] at h1
   simp only [beq_iff_eq] at h1
   have h2 : (upM B d r.1).testBit i=true:=by rw [← h1,Nat.testBit_or,hb,Bool.true_or]
   obtain ⟨n,hn,h3⟩:=upM_bit h2
   unfold reachT
   rw [hr]
   simp only
   rw [List.any_eq_true]
   refine ⟨n,hn,?_⟩
   rcases h3 with rfl|⟨h4,h5⟩
   ·simp
   ·rw [reach_bit hB fuel n (by omega) (by omega) h5,Bool.or_true]
def lastW (T : List (List Nat × List Nat)) (B : List Nat) (l : List Bool) (ds : List Nat) (i : Nat) : Bool:=ds.all fun d=>l.getD d true || (decide (d < T.length) && (B.getD d 0).testBit i)
def takeW (T : Bool × List (List Nat × List Nat)) (B : List Nat) (ds : List Nat) (l l' : List Bool) (i : Nat) : Bool:=T.1 && freeT T.2 l i && readyAt T.2 l i && closedT T.2 l && lastW T.2 B l ds i && (l.set i true == l')
theorem take_ofW {B : List Nat} (hT : rtab md ops=T) (hB : waitsOk T.2 B=true) (h : takeW T B ds l.toList l'.toList i=true) : takeB md ops ds l l' i=true:=by
 refine take_of hT ?_
 simp only [takeW,takeT,Bool.and_eq_true] at h ⊢
 obtain ⟨⟨⟨⟨⟨h1,h2⟩,h3⟩,h4⟩,h5⟩,h6⟩:=h
 refine ⟨⟨⟨⟨⟨h1,h2⟩,h3⟩,h4⟩,?_⟩,h6⟩
 unfold lastW at h5
 unfold lastT
 rw [List.all_eq_true] at h5 ⊢
 intro d hd
 have h7:=h5 d hd
 rw [Bool.or_eq_true,Bool.and_eq_true,decide_eq_true_eq] at h7
 rcases h7 with h7|⟨h8,h9⟩
 ·rw [h7,Bool.true_or]
 ·rw [reach_bit hB _ d h8 h8 h9,Bool.or_true]
theorem with_tabW {P : Program} {Q : Exit→Act→World→Prop} {S : World→Prop} {n : Nat} {a : Act} {w : World} {B : List Nat} (hT : rtab md ops=T) (hB : waitsOk T.2 B=true) (h : Aside0 (rtab md ops=T)→Aside0 (waitsOk T.2 B=true)→wpAnyLast P md ops Q S ds n l a w) : wpAnyLast P md ops Q S ds n l a w:=h ⟨hT⟩ ⟨hB⟩
end
def opsIn : Code→Nat→Option (Array Oper)
|.region id ops _,k=>if id == k then some ops else none
|.seq a b,k=>match opsIn a k with
 |some o=>some o
 |none=>opsIn b k
|.cond _ a b,k=>match opsIn a k with
 |some o=>some o
 |none=>opsIn b k
|.block _ c,k=>opsIn c k
|.loop c,k=>opsIn c k
|.scope c,k=>opsIn c k
|.rangeFunc _ _ a b,k=>match opsIn a k with
 |some o=>some o
 |none=>opsIn b k
|_,_=>none
def opsOf (f : Func) (k : Nat) : Array Oper:=((f.body.bind fun c=>opsIn c k)).getD #[]
end Go.Proofs.YtncdiodnbkhacaaDoorW.PrintLast
end
section
namespace Go.Proofs.YtncdiodnbkhacaaDoorW.PrintWords
open Go.RowKit
section
variable {P : Program} {ops : Array Oper} {rest : List Oper} {o : Oper} {a : Act} {Q : Exit→Act→World→Prop} {W : World}
theorem gate_guard (hw : Region.wanted o (yielded ops a.tmps)=true) (h : wpList P ops Q ({ o with guard:=none } :: rest) a W) : wpList P ops Q (o :: rest) a W:=by
 have h1 : Region.wanted { o with guard:=none } (yielded ops a.tmps)=true:=rfl
 unfold wpList at h ⊢
 rw [if_pos h1] at h
 rw [if_pos hw]
 exact h
end
end Go.Proofs.YtncdiodnbkhacaaDoorW.PrintWords
end
section
namespace Go.Proofs.YtncdiodnbkhacaaDoorW.PrintLast
def up (b : Nat→Bool) (i : Nat) : Nat→Bool:=fun j=>if j=i then true else b j
end Go.Proofs.YtncdiodnbkhacaaDoorW.PrintLast
end
section
set_option linter.unusedVariables false
set_option linter.unusedSimpArgs false
namespace Go.Proofs.YtncdiodnbkhacaaDoorW.PrintWords
open Go.RowKit
theorem own_same (A : Option Addr) (n c n' c' : Nat) : (Value.slice A n c).ownBlock=(Value.slice A n' c').ownBlock:=by cases A <;> rfl
namespace Kd
theorem R_takeC {α : Type} {d : Kd α} {e m n c c' : Nat} {w : World} {base : Nat} {ok : Nat→Prop} {A : Option Addr} {xs : List α} (h : d.R e w base ok (.slice A n c) xs) (hm : m≤xs.length) (hc : m≤c') (hc' : c'≤c) : d.R e w base ok (.slice A m c') (xs.take m):=by
 obtain ⟨h0,inner,ho,hr⟩:=h
 have hn : n=xs.length:=by
  obtain ⟨A',c1,he⟩:=own_slice ho
  injection he
 subst hn
 have hb : ∀ x y cx cy : Nat,(Value.slice A x cx).ownBlock=(Value.slice A y cy).ownBlock:=by
  intro x y cx cy
  cases A <;> rfl
 refine ⟨fun k hk=>h0 k (by rw [hb _ m c c'];exact hk),inner.take (m * d.sz),?_,?_⟩
 ·rw [List.length_take,Nat.min_eq_left hm]
  exact slack_take ho hm hc hc'
 ·rw [hb m xs.length c' c]
  exact reps_take hr hm
theorem R_addr {α : Type} {d : Kd α} {e n c base : Nat} {w : World} {ok : Nat→Prop} {A : Option Addr} {xs : List α} (h : d.R e w base ok (.slice A n c) xs) (hp : 0 < xs.length) : ∃ g,A=some ⟨g,0,none⟩∧base≤g∧ok g:=by
 obtain ⟨g,cap,he,hb,_⟩:=R_form h hp
 injection he with ha hn hc
 subst ha
 exact ⟨g,rfl,hb,h.1 g rfl⟩
theorem C_of_len {α : Type} {d : Kd α} {w : World} {A : Option Addr} {n m : Nat} {xs : List α} (h : n=m) (hc : d.C w A n xs) : d.C w A m xs:=h ▸ hc
section
variable {P : Program} {ops : Array Oper} {rest : List Oper} {o : Oper} {a : Act} {Q : Exit→Act→World→Prop} {α : Type}
theorem R_make0 (d : Kd α) {w0 W : World} (base e : Nat) (hgd : o.guard=none) {N : Tmp} (hd : o.dst=some N) (t : TypeId) (x y : Operand) (ho : o.op=.makeSlice t x y) (n : Int) (hx : a.eval x=.int .i64 0) (hy : a.eval y=.int .i64 n)
  (ht : P.underlying t=some (.slice e)) (z : Value) (bytes : Nat) (hinfo : (P.info? e).map (fun i=>(i.zero,i.size,i.bytes))=some (some z,d.sz,bytes)) (hz : z.cells.size=d.sz) (hs0 : 0 < d.sz) (hb0 : 0 < bytes)
  {ok : Nat→Prop} (hfresh : ok W.heap.size) (h0 : 0≤n) (hl : n.toNat * bytes≤281474976710656) (HB : Below base w0 W) (hbase : base≤W.heap.size)
  (h : ∀ v1 w1,d.R e w1 base ok v1 ([] : List α)→Below base w0 w1→W.grownBy w1 none→(∃ b,v1.ownBlock=some b∧W.heap.size≤b)→wpList P ops Q rest (a.put o.dst v1) w1) : wpList P ops Q (o :: rest) a W:=by
 obtain ⟨m,rfl⟩:=Int.eq_ofNat_of_zero_le h0
 simp only [Int.toNat_natCast] at hl
 obtain ⟨i0,hi,hzz⟩:=Option.map_eq_some_iff.1 hinfo
 simp only [Prod.mk.injEq] at hzz
 obtain ⟨hz0,hz1,hz2⟩:=hzz
 have hm : m≤281474976710656:=Nat.le_trans (Nat.le_mul_of_pos_right _ hb0) hl
 have hr:=run_make (P:=P) W t e i0 z ht hi hz0 .i64 .i64 (0 : Int) (m : Int) (by omega) (by omega)
  (by
   have h3 : ((i0.bytes * m : Nat) : Int)≤281474976710656:=by rw [hz2,Nat.mul_comm];omega
   rwa [Int.natCast_mul] at h3) (by omega)
 simp only [Int.toNat_natCast] at hr
 rw [hz1] at hr
 have hg : W.grownBy (W.alloc (.cells (madeCells z.cells (m * d.sz)) e)) none:=World.grownBy_alloc W _ none
 refine event_run hgd (by simp only [execOp,ho,hx,hy,hr,Sem.run_bind,Sem.run_pure,Result.andThen_ok,Result.andThen];rfl) ?_
 refine h _ _ ⟨fun k hk=>?_,[],⟨by simp,.inr ⟨W.heap.size,m,madeCells z.cells (m * d.sz),rfl,hbase,heap_alloc_new W _,Nat.zero_le _,by simp only [maxLen];omega,by rw [size_madeCells];exact Nat.le_refl _,by simp⟩⟩,Reps.none _ _⟩ (HB.alloc hbase _) hg ⟨W.heap.size,rfl,Nat.le_refl _⟩
 injection hk with hk
 subst hk
 exact hfresh
end
end Kd
theorem cut_win {P : Program} (t e : TypeId) (kl kh : IntKind) {i : TypeInfo} (ht : P.underlying t=some (.slice e)) (hi : P.info? e=some i) (hsz : i.size=1) (A : Option Addr) (n c : Nat) (lo hi' : Int) (h0 : 0≤lo) (h1 : lo < hi') (h2 : hi'≤n) (hc : n≤c) :
  ∀ W : World,(Instr.slice t (.slice A n c) (some (.int kl lo)) (some (.int kh hi')) none).run P W=.ok (.slice (A.map (fun a_=>a_.add lo.toNat)) (hi'.toNat - lo.toNat) (c - lo.toNat)) W:=by
 intro W
 rw [cut_mid t e kl kh ht hi 1 hsz A n c lo hi' h0 (by omega) h2 hc W,if_neg (by omega),Nat.mul_one]
end Go.Proofs.YtncdiodnbkhacaaDoorW.PrintWords
end
section
namespace Go.Proofs.YtncdiodnbkhacaaDoorW.PrintMore
open Go.RowKit Go.Proofs.YtncdiodnbkhacaaDoorW.PrintWords
namespace Kd
open Go.Proofs.YtncdiodnbkhacaaDoorW.PrintWords.Kd
section
variable {α : Type} {d : Kd α} {e base g N : Nat} {ok : Nat→Prop} {W w1 : World} {u v : Value} {xs : List α}
theorem R_old (hu : d.R e W base ok u xs) (hb : Below W.heap.size W w1) : d.R e w1 base (fun k=>ok k∧k < W.heap.size) u xs :=
 R_mono (R_below (R_bound hu) hb) (fun _ h=>⟨h.1,h.2.2.1⟩)
theorem R_told (h : d.R e w1 base (fun k=>ok k∧k < N) u xs) (hbase : ∀ k,v.ownBlock=some k→N≤k) : d.R e w1 base (fun k=>(ok k∧some k≠v.ownBlock)∧k < N) u xs :=
 R_mono h (fun k hk=>⟨⟨hk.1,fun e=>Nat.lt_irrefl _ (Nat.lt_of_lt_of_le hk.2 (hbase k e.symm))⟩,hk.2⟩)
end
end Kd
theorem max2_int (k k' : IntKind) (x y : Int) : Builtin.max2 (.int k x) (.int k' y)=pure (.int k (if x < y then y else x)):=by simp only [Builtin.max2,gt_iff_lt]
theorem min2_int (k k' : IntKind) (x y : Int) : Builtin.min2 (.int k x) (.int k' y)=pure (.int k (if y < x then y else x)):=by simp only [Builtin.min2]
theorem max_two (ats : Array TypeId) (ty : TypeId) (a b : Value) : Builtin.max_ ats ty #[a,b]=(Builtin.max2 a b >>= fun s=>pure s):=by simp only [Builtin.max_,List.foldlM_cons,List.foldlM_nil]
theorem min_two (ats : Array TypeId) (ty : TypeId) (a b : Value) : Builtin.min_ ats ty #[a,b]=(Builtin.min2 a b >>= fun s=>pure s):=by simp only [Builtin.min_,List.foldlM_cons,List.foldlM_nil]
theorem max_three (ats : Array TypeId) (ty : TypeId) (a b c : Value) : Builtin.max_ ats ty #[a,b,c]=(Builtin.max2 a b >>= fun s=>Builtin.max2 s c >>= fun s=>pure s):=by simp only [Builtin.max_,List.foldlM_cons,List.foldlM_nil]
theorem min_three (ats : Array TypeId) (ty : TypeId) (a b c : Value) : Builtin.min_ ats ty #[a,b,c]=(Builtin.min2 a b >>= fun s=>Builtin.min2 s c >>= fun s=>pure s):=by simp only [Builtin.min_,List.foldlM_cons,List.foldlM_nil]
theorem max_four (ats : Array TypeId) (ty : TypeId) (a b c d : Value) : Builtin.max_ ats ty #[a,b,c,d]=(Builtin.max2 a b >>= fun s=>Builtin.max2 s c >>= fun s=>Builtin.max2 s d >>= fun s=>pure s):=by simp only [Builtin.max_,List.foldlM_cons,List.foldlM_nil]
theorem min_four (ats : Array TypeId) (ty : TypeId) (a b c d : Value) : Builtin.min_ ats ty #[a,b,c,d]=(Builtin.min2 a b >>= fun s=>Builtin.min2 s c >>= fun s=>Builtin.min2 s d >>= fun s=>pure s):=by simp only [Builtin.min_,List.foldlM_cons,List.foldlM_nil]
end Go.Proofs.YtncdiodnbkhacaaDoorW.PrintMore
namespace Go.Proofs.YtncdiodnbkhacaaDoorW.PrintWords
open Go.RowKit
section
variable {P : Program} {ops : Array Oper} {rest : List Oper} {o : Oper} {a : Act} {Q : Exit→Act→World→Prop} {W : World}
theorem gate_callee {f : FuncId} {as_ : Array Operand} {ts : Array TypeId} (_ho : o.op=.call { callee:=.value (.func f),args:=as_,argTypes:=ts }) (h : wpList P ops Q (o :: rest) a W) : wpList P ops Q (o :: rest) a W:=h
theorem gate_builtin {b : Builtin} {xs : Array Operand} {ts : Array TypeId} (_ho : o.op=.call { callee:=.builtin b,args:=xs,argTypes:=ts }) (h : wpList P ops Q (o :: rest) a W) : wpList P ops Q (o :: rest) a W:=h
end
def mx (a b : Int) : Int:=if a < b then b else a
def mn (a b : Int) : Int:=if b < a then b else a
def shl (k : IntKind) (x y : Int) : Int:=k.wrap (x * 2 ^ min y.toNat k.bits)
def shr (k : IntKind) (x y : Int) : Int:=x / 2 ^ min y.toNat k.bits
theorem shl_small {k : IntKind} {x y j : Int} (h : shl k x y=j) (hy : y≤k.bits) : k.wrap (x * 2 ^ y.toNat)=j:=by rw [← h];unfold shl;rw [Nat.min_eq_left (by omega)]
theorem shr_small {k : IntKind} {x y j : Int} (h : shr k x y=j) (hy : y≤k.bits) : x / 2 ^ y.toNat=j:=by rw [← h];unfold shr;rw [Nat.min_eq_left (by omega)]
theorem drewN_self (w : World) (n : Nat) : w.drewN n=w.drewN n:=rfl
namespace Kd
section
variable {α : Type} {d : Kd α} {e base b b' g N : Nat} {ok ok1 : Nat→Prop} {W W2 w1 : World} {u v : Value} {xs ys : List α} {S : Nat→Prop}
theorem R_reok (hE : d.E=[]) (h : d.R e W base ok1 v xs) (hok : ∀ k,v.ownBlock=some k→ok k) : d.R e W base ok v xs:=R_mono (R_tight hE h) (fun k hk=>hok k hk.symm)
theorem R_keptB (h : d.R e W base ok v xs) (hk : Kept W W2 S) (hne : ∀ k,ok k→¬ S k) : d.R e W2 base (fun k=>ok k∧(¬ S k∧k < W.heap.size)) v xs :=
 R_kept (R_mono (R_bound h) (fun k hk=>⟨hk.1,hne k hk.1,hk.2.2.1⟩)) hk (fun _ hk=>hk.2.1)
end
end Kd
end Go.Proofs.YtncdiodnbkhacaaDoorW.PrintWords
namespace Go.Proofs.YtncdiodnbkhacaaDoorW.PrintWords
open Go.RowKit
namespace Kd
def V {α : Type} (d : Kd α) (_e : Nat) (W : World) (_base : Nat) (ok : Nat→Prop) (v : Value) (xs : List α) : Prop:=∃ A c,v=.slice A xs.length c∧xs.length≤c∧F d W ok A xs.length xs
section
variable {α β : Type} {d : Kd α} {e base base' n m c g N' lo hi : Nat} {ok ok' S : Nat→Prop} {w W w1 : World} {A : Option Addr} {ad : Addr} {u v v1 : Value} {xs : List α}
theorem V_map (h : V d e W base ok v xs) (hF : ∀ A,F d W ok A xs.length xs→F d w1 ok' A xs.length xs) : V d e w1 base' ok' v xs:=by
 obtain ⟨A,c,hv,hl,hf⟩:=h
 exact ⟨A,c,hv,hl,hF A hf⟩
theorem V_mk (hl : xs.length≤c) (hf : F d W ok A xs.length xs) : V d e W base ok (.slice A xs.length c) xs:=⟨A,c,rfl,hl,hf⟩
theorem V_slice (h : V d e W base ok v xs) : ∃ A c,v=.slice A xs.length c:=by
 obtain ⟨A,c,hv,_⟩:=h
 exact ⟨A,c,hv⟩
theorem V_at (h : V d e W base ok (.slice A n c) xs) : n=xs.length∧n≤c∧F d W ok A xs.length xs:=by
 obtain ⟨A',c',hv,hl,hf⟩:=h
 injection hv with ha hn hc
 subst ha;subst hc
 exact ⟨hn,by rw [hn];exact hl,hf⟩
theorem V_reads' (h : V d e W base ok (.slice A n c) xs) : n=xs.length∧n≤c∧d.C W A xs.length xs:=⟨(V_at h).1,(V_at h).2.1,F_now (V_at h).2.2⟩
theorem V_nil (d : Kd α) (e : Nat) (W : World) (base : Nat) (ok : Nat→Prop) : V d e W base ok (.slice none 0 0) []:=⟨none,0,rfl,Nat.le_refl _,F_nil d W ok⟩
theorem R_V (h : d.R e W base ok v xs) : V d e W base' ok v xs:=by
 obtain ⟨A,c,rfl⟩:=R_slice h
 exact ⟨A,c,rfl,(R_reads' h).2.1,R_F h⟩
theorem V_mono (h : V d e W base ok v xs) (hok : ∀ k,ok k→ok' k) : V d e W base ok' v xs:=V_map h (fun _ hf=>F_mono hf hok)
theorem V_below (h : V d e W base ok v xs) (hb : Below W.heap.size W w1) : V d e w1 base ok v xs:=V_map h (fun _ hf=>F_below hf hb)
theorem V_alloc (h : V d e W base ok v xs) (o : Obj) : V d e (W.alloc o) base ok v xs:=V_map h (fun _ hf=>F_alloc hf o)
theorem V_drew (h : V d e W base ok v xs) : V d e W.drew base ok v xs:=V_map h (fun _ hf=>F_drew hf)
theorem V_drewN (h : V d e W base ok v xs) (m : Nat) : V d e (W.drewN m) base ok v xs:=V_map h (fun _ hf=>F_drewN hf m)
theorem V_elder' (h : V d e W base ok v xs) (hbase : ∀ k,u.ownBlock=some k→W.heap.size≤k) (hb : Below W.heap.size W w1) : V d e w1 base (fun k=>ok k∧some k≠u.ownBlock) v xs:=V_map h (fun _ hf=>F_elder' hf hbase hb)
theorem V_old (h : V d e W base ok v xs) (hb : Below W.heap.size W w1) : V d e w1 base (fun k=>ok k∧k < W.heap.size) v xs:=V_map h (fun _ hf=>F_old hf hb)
theorem V_told (h : V d e w1 base (fun k=>ok k∧k < N') v xs) (hbase : ∀ k,u.ownBlock=some k→N'≤k) : V d e w1 base (fun k=>(ok k∧some k≠u.ownBlock)∧k < N') v xs:=V_map h (fun _ hf=>F_told hf hbase)
theorem R_newM {M : Nat→Prop} (h : d.R e w1 W.heap.size ok v xs) (hle : w.heap.size≤W.heap.size) (hM : ∀ k,w.heap.size≤k→M k) : d.R e w1 W.heap.size (fun k=>M k∧ok k) v xs:=R_mono (R_bound h) (fun k hk=>⟨hM k (Nat.le_trans hle hk.2.1),hk.1⟩)
end
end Kd
end Go.Proofs.YtncdiodnbkhacaaDoorW.PrintWords
end
section
namespace Go.Proofs.YtncdiodnbkhacaaDoorW.PrintWords
open Go Go.RowKit Go.Proofs.YtncdiodnbkhacaaDoorW.PrintLast Go.Proofs.YtncdiodnbkhacaaDoorW.PrintMore
section
variable {α : Type} {d : Kd α} {e : Nat} {w W : World} {base : Nat} {ok : Nat→Prop} {v : Value} {xs : List α}
theorem Ra (h : d.R e w base ok v xs) (o : Obj) : d.R e (w.alloc o) base ok v xs:=Kd.R_alloc h o
theorem Rn (h : d.R e w base ok v xs) (m : Nat) : d.R e (w.drewN m) base ok v xs:=Kd.R_drewN h m
theorem Rd (h : d.R e w base ok v xs) : d.R e w.drew base ok v xs:=Kd.R_drew h
theorem ba (h : Below w.heap.size w W) (o : Obj) : Below w.heap.size w (W.alloc o):=below_alloc h o
theorem bn {B : Nat} (h : Below B w W) (n : Nat) : Below B w (W.drewN n):=pw_below_drewN h n
theorem b1 (h : Below base w W) : Below base w W.drew:=below_drew1 h
theorem pv {P : Program} {ops : Array Oper} {Q : Exit→Act→World→Prop} {md : Region.Mode} {S : World→Prop} {ds : List Nat} {i : Nat} {N : Option Tmp} {oi : Oper} {v : Value} {fuel : Nat} {l : Array Bool} {a : Act} {w : World}
 (hi : ops[i]? = some oi) (hN : oi.dst=N) (hc : anyB md ops l (l.setIfInBounds i true) i=true) (hy : Yields P ops oi v a) {a' : Act} (ha : a.put N v=a') (h : wpAnyLast P md ops Q S ds fuel (l.setIfInBounds i true) a' w)
 (hQ : ∀ c a w,Q (.panic c) (a.put oi.dst v) w→Q (.panic c) a w:=by exact fun _ _ _ h=>h) : wpAnyLast P md ops Q S ds (fuel+1) l a w:=pure_ _ hi hN hc hQ hy ha h
class Up (w W : World) : Prop where
 b : Below w.heap.size w W
instance (w : World) : Up w w:=⟨Below.refl _ _⟩
instance (w W : World) (o : Obj) [h : Up w W] : Up w (W.alloc o):=⟨below_alloc h.b o⟩
instance (w W : World) (n : Nat) [h : Up w W] : Up w (W.drewN n):=⟨pw_below_drewN h.b n⟩
instance (w W : World) [h : Up w W] : Up w W.drew:=⟨below_drew1 h.b⟩
theorem Ru [u : Up w W] (h : d.R e w base ok v xs) : d.R e W base ok v xs:=Kd.R_below h u.b
theorem Cu [u : Up w W] {A : Option Addr} {n : Nat} (h : d.C w A n xs) : d.C W A n xs:=Kd.C_below h u.b
theorem Bu [u : Up w W] {g : Nat} {o : Obj} (h : w.heap[g]? = some o) : W.heap[g]? = some o:=blk_below h u.b
theorem Hu {W0 : World} [u : Up W0 W] (h : Below w.heap.size w W0) : Below w.heap.size w W:=below_step h u.b
theorem hu (x : Int) : IntKind.u32.wrap x=HMod.hMod x (4294967296 : Int):=by simp only [IntKind.wrap,IntKind.bits,IntKind.signed];simp
theorem s0 {β : Type} (l : List β) (i : Nat) (a : β) : l.toArray.setIfInBounds i a=(l.set i a).toArray:=List.setIfInBounds_toArray ..
theorem s1 {β : Type} (a b : β) (l : List β) : (a :: l).set 0 b=b :: l:=rfl
theorem s2 {β : Type} (a b : β) (l : List β) (n : Nat) : (a :: l).set (n+1) b=a :: l.set n b:=rfl
end
end Go.Proofs.YtncdiodnbkhacaaDoorW.PrintWords
end
section
namespace Go.Proofs.YtncdiodnbkhacaaDoorW.PrintWords
open Go.RowKit
structure Rbst (S : Nat→Prop) (w : World) (Q : World→Prop) : Prop where mk :: (out : ∀ W,Kept w W S→Q W)
section
variable {S S' : Nat→Prop} {w w1 : World} {Q Q' : World→Prop}
theorem Rbst.now (h : Rbst S w Q) : Q w:=h.out w (Kept.refl w S)
theorem Rbst.at (h : Rbst S w Q) (k : Kept w w1 S) : Q w1:=h.out w1 k
theorem Rbst.step (h : Rbst S w Q) (k : Kept w w1 S) : Rbst S w1 Q:=⟨fun W k'=>h.out W (k.then_ k' (fun _ h2=>.inl h2))⟩
theorem Rbst.and (h : Rbst S w Q) (h' : Rbst S w Q') : Rbst S w (fun W=>Q W∧Q' W):=⟨fun W k=>⟨h.out W k,h'.out W k⟩⟩
theorem Rbst.imp (h : Rbst S w Q) (f : ∀ W,Q W→Q' W) : Rbst S w Q':=⟨fun W k=>f W (h.out W k)⟩
theorem Rbst.less (h : Rbst S w Q) (f : ∀ k,S' k→S k∨w.heap.size≤k) : Rbst S' w Q:=⟨fun W k=>h.out W ((Kept.refl w S).then_ k f)⟩
end
class Kp (S : Nat→Prop) (w W : World) : Prop where
 k : Kept w W S
class In (S : Nat→Prop) (g : Nat) : Prop where
 i : S g
instance (S : Nat→Prop) (w : World) : Kp S w w:=⟨Kept.refl w S⟩
instance (S : Nat→Prop) (w W : World) (o : Obj) [h : Kp S w W] : Kp S w (W.alloc o):=⟨h.k.alloc o⟩
instance (S : Nat→Prop) (w W : World) (n : Nat) [h : Kp S w W] : Kp S w (W.drewN n):=⟨h.k.drewN n⟩
instance (S : Nat→Prop) (w W : World) [h : Kp S w W] : Kp S w W.drew:=⟨h.k.drew⟩
instance (S : Nat→Prop) (w W : World) (g j : Nat) (v : Value) [h : Kp S w W] [i : In S g] : Kp S w (W.setCell ⟨g,j,none⟩ v):=⟨h.k.setCell (.inl i.i) v⟩
theorem kp_of {S : Nat→Prop} {W W' : World} (hb : Below W.heap.size W W') (w : World) [h : Kp S w W] : Kp S w W':=⟨h.k.below hb⟩
section
variable {S : Nat→Prop} {w w1 : World} {Q : World→Prop}
theorem Rbst.now' (h : Rbst S w Q) [k : Kp S w w1] : Q w1:=h.out w1 k.k
theorem Rbst.up (h : Rbst S w Q) [k : Kp S w w1] : Rbst S w1 Q:=h.step k.k
end
section
variable {α : Type} {d : Kd α} {e base : Nat} {ok S : Nat→Prop} {w w1 : World} {A : Option Addr} {n c : Nat} {v : Value} {xs : List α}
theorem came (h : d.C w A n xs) (hd : Kd.Heap d) (hb : Below w.heap.size w w1) (hS : ∀ k,S k→w.heap.size≤k) : Rbst S w1 (fun W=>d.C W A n xs):=⟨Kd.C_kept_came hd h hb hS⟩
theorem made (h : d.R e w base ok v xs) (hS : ∀ k,S k→k < base∨w.heap.size≤k) : ∃ A c,v=.slice A xs.length c∧xs.length≤c∧Rbst S w (fun W=>d.C W A xs.length xs):=by
 obtain ⟨A,c,rfl,hl,_⟩:=Kd.R_reads h
 refine ⟨A,c,rfl,hl,⟨Kd.C_kept_own (Kd.R_bound h) (fun k hk hs=>?_)⟩⟩
 have:=hS k hs
 omega
end
theorem bcell {W w1 : World} (hb : Below W.heap.size W w1) : (∀ b o,b < W.heap.size→w1.cell? ⟨b,o,none⟩=W.cell? ⟨b,o,none⟩)∧(∀ b o,b < W.heap.size→w1.frozen? ⟨b,o,none⟩=W.frozen? ⟨b,o,none⟩) :=
 ⟨fun b o h=>hb.cell (p:=⟨b,o,none⟩) h,fun b o h=>hb.frozen (p:=⟨b,o,none⟩) h⟩
section
open Go.Proofs.YtncdiodnbkhacaaDoorW.PrintLast
variable {P : Program} {ops : Array Oper} {Q : Exit→Act→World→Prop} {md : Region.Mode} {S : World→Prop} {ds : List Nat} {i : Nat} {N : Option Tmp} {oi : Oper} {v : Value} {fuel : Nat} {l : Array Bool} {a : Act} {w : World}
theorem pq (hi : ops[i]? = some oi) (hN : oi.dst=N) (hc : anyB md ops l (l.setIfInBounds i true) i=true) (hy : Yields P ops oi v a) {a' : Act} (ha : a.put N v=a') (h : wpAnyLast P md ops Q S ds fuel (l.setIfInBounds i true) a' w)
 (hQ : ∀ c a w,Q (.panic c) (a.put oi.dst v) w→Q (.panic c) a w:=by exact fun _ _ _ h=>h) : wpAnyLast P md ops Q S ds (fuel+1) l a w:=pure_ _ hi hN hc hQ hy ha h
theorem tq (hi : ops[i]? = some oi) (hN : oi.dst=N) (hc : takeB md ops ds l (l.setIfInBounds i true) i=true) (hS : S w) (hy : YieldsIf P ops S oi v a) {a' : Act} (ha : a.put N v=a') (h : wpAnyLast P md ops Q S ds fuel (l.setIfInBounds i true) a' w)
 (hQ : ∀ c a w,Q (.panic c) (a.put oi.dst v) w→Q (.panic c) a w:=by exact fun _ _ _ h=>h) : wpAnyLast P md ops Q S ds (fuel+1) l a w:=take_ _ hi hN hc hQ hy hS ha h
end
theorem cells3 {W : World} {g t : Nat} {a b c : Value} (h : W.heap[g]? = some (.cells #[a,b,c] t (0,0))) : W.cell? ⟨g,0,none⟩=some a∧W.cell? ⟨g,1,none⟩=some b∧W.cell? ⟨g,2,none⟩=some c :=
 ⟨blk_cell h 0,blk_cell h 1,blk_cell h 2⟩
theorem free3 {W : World} {g t : Nat} {a b c : Value} (h : W.heap[g]? = some (.cells #[a,b,c] t (0,0))) : W.frozen? ⟨g,0,none⟩=false∧W.frozen? ⟨g,1,none⟩=false∧W.frozen? ⟨g,2,none⟩=false :=
 ⟨blk_frozen h 0,blk_frozen h 1,blk_frozen h 2⟩
abbrev U32 : Kd Int:=Kd.int .u32
theorem three (w : World) (a b c : Obj) : Aside0 (Below w.heap.size w (((w.alloc a).alloc b).alloc c).drew)∧Aside0 (w.heap.size+3≤(((w.alloc a).alloc b).alloc c).drew.heap.size)∧(((w.alloc a).alloc b).alloc c).drew.heap[w.heap.size]? = some a ∧
  (((w.alloc a).alloc b).alloc c).drew.heap[w.heap.size+1]? = some b∧(((w.alloc a).alloc b).alloc c).drew.heap[w.heap.size+1+1]? = some c :=
 ⟨⟨below_drew1 (below_alloc (below_alloc (below_alloc (Below.refl _ _) _) _) _)⟩,⟨by simp⟩,blk_alloc (blk_alloc (blk_new _ _) _) _,by
  have:=blk_alloc (blk_new (w.alloc a) b) c
  rwa [show (w.alloc a).heap.size=w.heap.size+1 by simp] at this,by
  have:=blk_new ((w.alloc a).alloc b) c
  rwa [show ((w.alloc a).alloc b).heap.size=w.heap.size+1+1 by simp] at this⟩
theorem put3 {W : World} {g t : Nat} {a b c : Value} (h : W.heap[g]? = some (.cells #[a,b,c] t (0,0))) (x y z : Value) :
  (((W.setCell ⟨g,0,none⟩ x).setCell ⟨g,1,none⟩ y).setCell ⟨g,2,none⟩ z).heap[g]? = some (.cells #[x,y,z] t (0,0)) :=
 blk_put (cs:=#[x,y,c]) (blk_put (cs:=#[x,b,c]) (blk_put h 0 x rfl) 1 y rfl) 2 z rfl
theorem far3 {W : World} {g g' : Nat} {o : Obj} (h : W.heap[g']? = some o) (hne : g'≠g) (x y z : Value) :
  (((W.setCell ⟨g,0,none⟩ x).setCell ⟨g,1,none⟩ y).setCell ⟨g,2,none⟩ z).heap[g']? = some o:=by
 rw [Below.heap_setCell _ _ _ _ hne,Below.heap_setCell _ _ _ _ hne,Below.heap_setCell _ _ _ _ hne];exact h
theorem low3 {w W : World} {g : Nat} (h : Below w.heap.size w W) (hg : w.heap.size≤g) (x y z : Value) :
  Below w.heap.size w (((W.setCell ⟨g,0,none⟩ x).setCell ⟨g,1,none⟩ y).setCell ⟨g,2,none⟩ z):=((h.setCell hg x).setCell hg y).setCell hg z
theorem R3 {α : Type} {d : Kd α} {e base b0 g t : Nat} {ok : Nat→Prop} {W : World} {v : Value} {xs : List α} {cs : Array Value} (h : d.R e W base ok v xs) (hb : b0≤base) (hB : W.heap[g]? = some (.cells cs t (0,0))) (ht : ∀ q,q∈e :: d.E→q≠t) (x y z : Value) :
  d.R e (((W.setCell ⟨g,0,none⟩ x).setCell ⟨g,1,none⟩ y).setCell ⟨g,2,none⟩ z) b0 ok v xs :=
 Kd.R_lower (Kd.R_mono (Kd.R_far (p:=⟨g,2,none⟩) (Kd.R_far (p:=⟨g,1,none⟩) (Kd.R_far (p:=⟨g,0,none⟩) (Kd.R_types h hB ht) (fun _ hk=>hk.2) x) (fun _ hk=>hk.2) y) (fun _ hk=>hk.2) z) (fun _ hk=>hk.1)) hb
end Go.Proofs.YtncdiodnbkhacaaDoorW.PrintWords
end
section
namespace Go.Proofs.YtncdiodnbkhacaaDoorW.PrintWords
theorem Reps.one {α : Type} {R : α→List Value→Prop} {ps : List α} {cs : List Value} {p : α} {v : Value} (hp : R p [v]) (h : Reps R 1 ps cs) : Reps R 1 (p :: ps) (v :: cs):=by
 refine ⟨by simp [h.1],fun j q hq=>?_⟩
 cases j with
|zero =>
  simp only [List.getElem?_cons_zero,Option.some.injEq] at hq
  subst hq
  simpa using hp
|succ j =>
  simp only [List.getElem?_cons_succ] at hq
  have h1:=h.2 j q hq
  simpa [Nat.mul_one] using h1
theorem Reps.front {α : Type} {R : α→List Value→Prop} {size : Nat} {ps : List α} {cs c all : List Value} {p : α} (hp : R p c) (hc : c.length=size) (h : Reps R size ps cs) (ha : c++cs=all) : Reps R size (p :: ps) all:=by
 subst ha
 refine ⟨by rw [List.length_append,hc,h.1,List.length_cons,Nat.succ_mul,Nat.add_comm],fun j q hq=>?_⟩
 cases j with
|zero =>
  simp only [List.getElem?_cons_zero,Option.some.injEq] at hq
  subst hq
  rw [Nat.zero_mul,List.drop_zero,List.take_append_of_le_length (by omega),List.take_of_length_le (by omega)]
  exact hp
|succ j =>
  simp only [List.getElem?_cons_succ] at hq
  have h1:=h.2 j q hq
  rw [Nat.succ_mul,List.drop_append,List.drop_of_length_le (by rw [hc];exact Nat.le_add_left _ _),List.nil_append,hc,Nat.add_sub_cancel]
  exact h1
theorem Reps.c2 {α : Type} {R : α→List Value→Prop} {ps : List α} {cs : List Value} {p : α} {va vb : Value} (hp : R p [va,vb]) (h : Reps R 2 ps cs) : Reps R 2 (p :: ps) (va :: vb :: cs):=Reps.front hp rfl h rfl
theorem Reps.c3 {α : Type} {R : α→List Value→Prop} {ps : List α} {cs : List Value} {p : α} {va vb vc : Value} (hp : R p [va,vb,vc]) (h : Reps R 3 ps cs) : Reps R 3 (p :: ps) (va :: vb :: vc :: cs):=Reps.front hp rfl h rfl
theorem Reps.c4 {α : Type} {R : α→List Value→Prop} {ps : List α} {cs : List Value} {p : α} {va vb vc vd : Value} (hp : R p [va,vb,vc,vd]) (h : Reps R 4 ps cs) : Reps R 4 (p :: ps) (va :: vb :: vc :: vd :: cs):=Reps.front hp rfl h rfl
theorem Reps.c5 {α : Type} {R : α→List Value→Prop} {ps : List α} {cs : List Value} {p : α} {va vb vc vd ve : Value} (hp : R p [va,vb,vc,vd,ve]) (h : Reps R 5 ps cs) : Reps R 5 (p :: ps) (va :: vb :: vc :: vd :: ve :: cs):=Reps.front hp rfl h rfl
theorem Reps.c6 {α : Type} {R : α→List Value→Prop} {ps : List α} {cs : List Value} {p : α} {va vb vc vd ve vf : Value} (hp : R p [va,vb,vc,vd,ve,vf]) (h : Reps R 6 ps cs) : Reps R 6 (p :: ps) (va :: vb :: vc :: vd :: ve :: vf :: cs):=Reps.front hp rfl h rfl
theorem Reps.c7 {α : Type} {R : α→List Value→Prop} {ps : List α} {cs : List Value} {p : α} {va vb vc vd ve vf vg : Value} (hp : R p [va,vb,vc,vd,ve,vf,vg]) (h : Reps R 7 ps cs) : Reps R 7 (p :: ps) (va :: vb :: vc :: vd :: ve :: vf :: vg :: cs):=Reps.front hp rfl h rfl
theorem Reps.c8 {α : Type} {R : α→List Value→Prop} {ps : List α} {cs : List Value} {p : α} {va vb vc vd ve vf vg vh : Value} (hp : R p [va,vb,vc,vd,ve,vf,vg,vh]) (h : Reps R 8 ps cs) : Reps R 8 (p :: ps) (va :: vb :: vc :: vd :: ve :: vf :: vg :: vh :: cs):=Reps.front hp rfl h rfl
theorem Reps.c9 {α : Type} {R : α→List Value→Prop} {ps : List α} {cs : List Value} {p : α} {va vb vc vd ve vf vg vh vi : Value} (hp : R p [va,vb,vc,vd,ve,vf,vg,vh,vi]) (h : Reps R 9 ps cs) : Reps R 9 (p :: ps) (va :: vb :: vc :: vd :: ve :: vf :: vg :: vh :: vi :: cs):=Reps.front hp rfl h rfl
theorem Reps.c10 {α : Type} {R : α→List Value→Prop} {ps : List α} {cs : List Value} {p : α} {va vb vc vd ve vf vg vh vi vj : Value} (hp : R p [va,vb,vc,vd,ve,vf,vg,vh,vi,vj]) (h : Reps R 10 ps cs) : Reps R 10 (p :: ps) (va :: vb :: vc :: vd :: ve :: vf :: vg :: vh :: vi :: vj :: cs):=Reps.front hp rfl h rfl
end Go.Proofs.YtncdiodnbkhacaaDoorW.PrintWords
end
end
section
namespace Go.Proofs.YtncdiodnbkhacaaDoor.Bw
open Go.RowKit Go.Shelf Go.Proofs Go.Proofs.YtncdiodnbkhacaaDoorW.PrintWords
attribute [local go_sem] Oper.semAt_some
def Keep (n₀ Bs : Nat) (W W' : World) : Prop:=Below n₀ W W' ∧ ∀ o,W.heap[Bs]? = some o→W'.heap[Bs]? = some o
theorem Keep.refl (n₀ Bs : Nat) (W : World) : Keep n₀ Bs W W:=⟨Below.refl _ _,fun _ h=>h⟩
theorem Keep.trans {n₀ Bs : Nat} {A B C : World} (h : Keep n₀ Bs A B) (k : Keep n₀ Bs B C) : Keep n₀ Bs A C:=⟨h.1.trans k.1,fun o ho=>k.2 o (h.2 o ho)⟩
theorem Keep.cell {n₀ Bs : Nat} {A B : World} (h : Keep n₀ Bs A B) {v : Value} (hc : A.cell? ⟨Bs,0,none⟩=some v) : B.cell? ⟨Bs,0,none⟩=some v:=by
 unfold World.cell? at hc ⊢
 cases ha : A.heap[Bs]? with
|none=>simp [ha] at hc
|some o =>
  have hb:=h.2 o ha
  simp only [ha] at hc
  simp only [hb]
  exact hc
abbrev S9:={ s : ByteArray // s.size≤9 }
def z9 : S9:=⟨⟨#[]⟩,by decide⟩
def back (zs : List S9) (k : Nat) : List (Nat × S9):=(List.range k).map fun j=>(zs.length - 1 - j,zs[zs.length - 1 - j]?.getD z9)
theorem back_succ (zs : List S9) (k : Nat) : back zs (k+1)=back zs k++[(zs.length - 1 - k,zs[zs.length - 1 - k]?.getD z9)]:=by simp [back,List.range_succ]
theorem back_length (zs : List S9) (k : Nat) : (back zs k).length=k:=by simp [back]
set_option maxRecDepth 100000 in
set_option maxHeartbeats 2000000 in
theorem closure_in (F : Fence) (n : Nat) (h64 : F.fn 64) (hro : F.round=none) (hn : 1≤n) (l Bs n₀ b off cap : Nat) (zs : List S9) (hreach : zs.length * 16≤140737488351232) (hb : b < n₀) (J Jx : List (Nat × S9)→World→Prop)
  (hY : ∀ pre x W,J pre W→pre.length < zs.length→YieldAt F (n - 1) Tryd.prog l #[.int .i64 (x.1 : Int),.string x.2.1] W fun e W' =>
   (e=.returned (.bool true)∧J (pre++[x]) W'∧Keep n₀ Bs W W')∨(e=.returned (.bool false)∧Jx (pre++[x]) W'))
  (W : World) (hBs : W.cell? ⟨Bs,0,none⟩=some (.slice (some ⟨b,off,none⟩) zs.length cap)) (hc : ∀ j,j < zs.length→W.cell? ⟨b,off+j,none⟩=some (.string (zs[j]?.getD z9).1)) (h0 : J [] W) :
  CallsIn F n Tryd.prog 64 #[.func (.yield l) #[] #[],.pointer (some ⟨Bs,0,none⟩)] W fun e W'=>(∃ v,e=.returned v) ∧
   ((∃ ys,ys=back zs zs.length∧J ys W')∨(∃ pre,(∃ k,k≤zs.length∧pre=back zs k)∧Jx pre W')):=by
 refine callsIn_of_wp Tryd.func64 rfl h64 ?_ hro
 simp only [Tryd.ntmps64,List.size_toArray,List.length_cons,List.length_nil,Nat.reduceAdd,Nat.reduceSub,Array.replicate_succ,Array.replicate_zero,List.push_toArray,List.append_toArray,List.nil_append,List.cons_append]
 gi_wp2
 gi_loopw [3] (fun i wr=>∃ k : Nat,k≤zs.length∧i=.int .i64 ((zs.length : Int) - 1 - k)∧J (back zs k) wr∧Keep n₀ Bs W wr)
  (fun i _=>((intOf i)+1).toNat)
 case atStart=>exact ⟨0,Nat.zero_le _,by simp,h0,Keep.refl _ _ _⟩
 case round =>
  obtain ⟨k,hk,rfl,hJs,hnx⟩:=hrel
  have hbx:=hnx.cell hBs
  by_cases hlt : k < zs.length
  ·obtain ⟨j,hj⟩ : ∃ j,j=zs.length - 1 - k:=⟨_,rfl⟩
   have hji : (zs.length : Int) - 1 - k=(j : Int):=by omega
   have hjl : j < zs.length:=by omega
   obtain ⟨s,hs⟩ : ∃ s,zs[j]?.getD z9=s:=⟨_,rfl⟩
   obtain ⟨fn,tmps,assign,body,hy,hR⟩:=hY _ (j,s) wr hJs (by rw [back_length];exact hlt)
   dsimp only at hy
   have hcx : wr.cell? ⟨b,off+j,none⟩=some (.string s.1):=by rw [← hs];exact (hnx.1.cell (p:=⟨b,off+j,none⟩) hb).trans (hc j hjl)
   rw [hji]
   have HJ:=Aside0.mk hj
   have HS:=Aside0.mk hs
   clear hs
   have HJI:=Aside0.mk hji
   have HL:=Aside0.mk hlt
   have HK:=Aside0.mk hk
   clear hj hji hlt hk
   gi_wp2
   refine hR.mono ?_
   rintro e W3 (⟨rfl,hJ3,hk3⟩|⟨rfl,hJx3⟩)
   ·gi_wp2
    go_roundw
    case rel=>exact ⟨k+1,HL.out,by have:=HJI.out;go_num,by rw [back_succ,← HJ.out,HS.out];exact hJ3,hnx.trans hk3⟩
    case measure=>simp [intOf] <;> omega
   ·gi_wp2
    refine bodyPost_ret (results_none rfl _ _ _) rfl ?_
    exact ⟨⟨_,rfl⟩,.inr ⟨_,⟨k+1,HL.out,by rw [back_succ,← HJ.out,HS.out]⟩,hJx3⟩⟩
  ·obtain rfl : k=zs.length:=by omega
   have hm : (zs.length : Int) - 1 - (zs.length : Int) = -1:=by omega
   rw [hm]
   gi_wp2
   go_end0
   exact ⟨⟨_,rfl⟩,.inl ⟨_,rfl,hJs⟩⟩
set_option maxRecDepth 100000 in
set_option maxHeartbeats 1000000 in
theorem closure_nil_in (F : Fence) (n : Nat) (h64 : F.fn 64) (hro : F.round=none) (l Bs : Nat) (J : List (Nat × S9)→World→Prop) (W : World) (hBs : W.cell? ⟨Bs,0,none⟩=some (.slice none 0 0)) (h0 : J [] W) :
  CallsIn F n Tryd.prog 64 #[.func (.yield l) #[] #[],.pointer (some ⟨Bs,0,none⟩)] W fun e W'=>(∃ v,e=.returned v)∧J [] W':=by
 refine callsIn_of_wp Tryd.func64 rfl h64 ?_ hro
 simp only [Tryd.ntmps64,List.size_toArray,List.length_cons,List.length_nil,Nat.reduceAdd,Nat.reduceSub,Array.replicate_succ,Array.replicate_zero,List.push_toArray,List.append_toArray,List.nil_append,List.cons_append]
 gi_wp2
 gi_loopw [3] (fun i wr=>i=.int .i64 (-1)∧J [] wr) (fun _ _=>0)
 case atStart=>exact ⟨rfl,h0⟩
 case round =>
  obtain ⟨rfl,hJs⟩:=hrel
  gi_wp2
  go_end0
  exact ⟨⟨_,rfl⟩,hJs⟩
set_option maxHeartbeats 1000000 in
theorem backward (a : Option Addr) (len cap : Nat) (w : World) :
  Calls Tryd.prog 38 #[.slice a len cap] w fun e w'=>e=.returned (.func (.func 64) #[] #[.pointer (some ⟨w.heap.size,0,none⟩)])∧w'=w.alloc (.cells #[.slice a len cap] 53):=by
 go_enter Tryd.func38,Tryd.ntmps38
 go_wp2
 go_ret
 exact ⟨rfl,rfl⟩
def Strs (n₀ : Nat) (W : World) (sv : Value) (zs : List S9) : Prop :=
 (sv=.slice none 0 0∧zs=[]) ∨ ∃ b off cap,sv=.slice (some ⟨b,off,none⟩) zs.length cap∧b < n₀ ∧ ∀ j,j < zs.length→W.cell? ⟨b,off+j,none⟩=some (.string (zs[j]?.getD z9).1)
theorem Strs.below {n₀ : Nat} {A B : World} (h : Below n₀ A B) {sv : Value} {zs : List S9} : Strs n₀ A sv zs→Strs n₀ B sv zs
|.inl e=>.inl e
|.inr ⟨b,off,cap,e,hb,hc⟩=>.inr ⟨b,off,cap,e,hb,fun j hj=>(h.cell (p:=⟨b,off+j,none⟩) hb).trans (hc j hj)⟩
theorem stops (F : Fence) (n : Nat) (h64 : F.fn 64) (hro : F.round=none) (hn : 1≤n) (Bs n₀ : Nat) (sv : Value) (zs : List S9) (hreach : zs.length * 16≤140737488351232) (w : World) (hBs : Bs < w.heap.size) (hn₀ : n₀≤w.heap.size)
  (hc : w.cell? ⟨Bs,0,none⟩=some sv) (hI : Strs n₀ w sv zs) :
  SeqStopsK F n Tryd.prog 64 #[.pointer (some ⟨Bs,0,none⟩)] (fun x : Nat × S9=>#[Value.int .i64 (x.1 : Int),Value.string x.2.1]) (Keep n₀ Bs) (fun ys=>ys=back zs zs.length)
   (fun pre=>∃ k,k≤zs.length∧pre=back zs k) zs.length w:=fun l J Jx W hW _ _ hY h0=>by
 have hc':=(hW.cell (p:=⟨Bs,0,none⟩) hBs).trans hc
 rcases hI.below (hW.mono hn₀) with ⟨rfl,rfl⟩|⟨b,off,cap,rfl,hb,hcs⟩
 ·exact (closure_nil_in F n h64 hro l Bs J W hc' h0).mono fun e W' ⟨he,hj⟩=>⟨he,.inl ⟨_,rfl,hj⟩⟩
 ·exact closure_in F n h64 hro hn l Bs n₀ b off cap zs hreach hb J Jx hY W hc' hcs h0
theorem keep_b {n₀ Bs : Nat} {w : World} (hn : n₀≤w.heap.size) (hB : Bs < w.heap.size) (W : World) (l : Nat) (o o' : Obj) (hl : w.heap.size≤l) (h : W.heap[l]? = some o) (h1 : o.isCells=false) (h2 : o.isWalk=false) : Keep n₀ Bs W (W.putObj l o') :=
 ⟨belowK_b hn W l o o' hl h h1 h2,fun x hx=>(World.putObj_heap_other (by omega)).trans hx⟩
def cat (pre : List (Nat × S9)) : List UInt8:=(pre.map fun y=>y.2.1.data.toList).flatten
theorem cat_snoc (pre : List (Nat × S9)) (x : Nat × S9) : cat (pre++[x])=cat pre++x.2.1.data.toList:=by simp [cat]
theorem cat_length (pre : List (Nat × S9)) : (cat pre).length≤9 * pre.length:=by
 induction pre with
|nil=>simp [cat]
|cons x r ih =>
  have h : x.2.1.data.toList.length≤9:=by have:=x.2.2;rw [Array.length_toList];exact this
  have e : cat (x :: r)=x.2.1.data.toList++cat r:=by simp [cat]
  rw [e,List.length_append,List.length_cons]
  omega
theorem byteCells_append (a b : List UInt8) : Lib.byteCells (a++b)=Lib.byteCells a++Lib.byteCells b:=by simp [Lib.byteCells]
theorem strCells_eq (s : ByteArray) : Lib.strCells s=Lib.byteCells s.data.toList:=rfl
theorem at_kept {T e : TypeId} {B b : Nat} {p : Value} {bs : List Value} {W W' : World} {row : Option Nat} (h : Lib.BuilderAtF T e B b p bs W) (hg : W.grownBy W' row) (hr : ∀ r,row=some r → ∃ o : Obj,W.heap[r]? = some o∧o.isCells=false) : Lib.BuilderAtF T e B b p bs W':=by
 obtain ⟨hB,v,hb,hown,hne⟩:=h
 have hnc : ∀ k c t fz,W.heap[k]? = some (.cells c t fz)→row≠some k:=by
  intro k c t fz hk e1
  obtain ⟨o,ho,hoc⟩:=hr k e1
  rw [hk] at ho
  cases ho
  simp [Obj.isCells] at hoc
 refine ⟨hB,v,(hg.block b (Array.getElem?_eq_some_iff.1 hb).1 (fun e1=>hnc b _ _ _ hb e1.symm)).trans hb,hown.kept hg ?_,hne⟩
 cases ho : v.ownBlock with
|none=>exact .inl rfl
|some g =>
  obtain ⟨c,fz,hc⟩:=Lib.ownsRowF_kind hown g ho
  exact .inr (fun e1=>hnc g _ _ _ hc e1.symm)
theorem own_builder {T e : TypeId} {B b : Nat} (f : List (Nat × S9)→List Value) (B' : Nat) : OwnFrom B' (fun pre W=>Lib.IsBuilderF T e B b (f pre) W) :=
 fun s W W' row hs hg hr=>hs.elim (fun x=>.inl (at_kept x hg (fun r e1=>(hr r e1).2))) (fun x=>.inr (at_kept x hg (fun r e1=>(hr r e1).2)))
theorem own_cells {c : Array Value} {t : TypeId} {fz : Nat × Nat} (k : Nat) (B' : Nat) : OwnFrom B' (fun (_ : List (Nat × S9)) W=>W.heap[k]? = some (.cells c t fz)):=by
 intro s W W' row hs hg hr
 refine (hg.block k (Array.getElem?_eq_some_iff.1 hs).1 ?_).trans hs
 intro e1
 obtain ⟨o,ho,hoc⟩:=(hr k e1.symm).2
 rw [hs] at ho
 cases ho
 simp [Obj.isCells] at hoc
theorem strs_of {W : World} {base : Nat} {ok : Nat→Prop} {A : Option Addr} {c : Nat} {ps : List ByteArray} {zs : List S9} (h : Kd.string.R 9 W base ok (.slice A ps.length c) ps) (hz : zs.map (·.1)=ps) : Strs W.heap.size W (.slice A ps.length c) zs:=by
 have hl : zs.length=ps.length:=by rw [← hz,List.length_map]
 obtain ⟨inner,hs⟩:=Kd.R_own h
 rcases hs.2 with ⟨e1,e2⟩|⟨g,cap,cur,e1,hb,hh,_⟩
 ·refine .inl ⟨e1,List.eq_nil_of_length_eq_zero (by omega)⟩
 ·injection e1 with e1 e2 e3
  subst e1 e3
  refine .inr ⟨g,0,c,by rw [hl],(Array.getElem?_eq_some_iff.1 hh).1,fun j hj=>?_⟩
  have hc:=(Kd.R_cell (⟨#[]⟩ : ByteArray) h (j : Int) (by omega) (by omega)).1
  rw [Int.toNat_natCast] at hc
  rw [Nat.zero_add,hc]
  congr 2
  subst hz
  simp [rdOf,hj]
theorem lift9 : ∀ {ps : List ByteArray},(∀ p∈ps,p.size≤9) → ∃ zs : List S9,zs.map (·.1)=ps
|[],_=>⟨[],rfl⟩
|p :: r,h=>by
  obtain ⟨zs,e⟩:=lift9 (ps:=r) (fun q hq=>h q (List.mem_cons_of_mem _ hq))
  exact ⟨⟨p,h p (List.mem_cons_self ..)⟩ :: zs,by simp [e]⟩
theorem cat_back {zs : List S9} {ps : List ByteArray} (hz : zs.map (·.1)=ps) : cat (back zs zs.length)=(ps.reverse.map fun p=>p.data.toList).flatten:=by
 subst hz
 unfold cat back
 congr 1
 rw [← List.map_reverse,List.map_map,List.map_map]
 apply List.ext_getElem
 ·simp
 ·intro i h1 h2
  simp at h1
  simp [List.getElem_reverse,show zs.length - 1 - i < zs.length by omega]
end Go.Proofs.YtncdiodnbkhacaaDoor.Bw
end
section
namespace Go.Proofs.YtncdiodnbkhacaaDoor.Pq
open Go.RowKit Go.Proofs.YtncdiodnbkhacaaDoorW.PrintWords Go.Proofs.YtncdiodnbkhacaaDoorW.PrintLast Go.Proofs.YtncdiodnbkhacaaDoorW.PrintMore
attribute [local go_sem] max2_int min2_int max_two min_two max_three min_three max_four min_four   -- for this text's walks alone
set_option linter.unusedVariables false
set_option linter.unusedSimpArgs false
def errW : Option Int→Value
|none=>.nilIface
|some c=>.iface 0 (.int .i64 c)
theorem errW_none : errW none=.nilIface:=rfl
theorem errW_some (c : Int) : errW (some c)=.iface 0 (.int .i64 c):=rfl
theorem info35 : (Tryd.prog.info? 35).map (fun i=>(i.zero,i.size,i.bytes))=some (some (.int .u32 0),1,4):=by kernel_rfl
-- the values' own types
structure S25 where
 f0 : Bool
 f1 : (List Int)
 f2 : (List Int)
def z25 : S25:=⟨false,([] : List Int),([] : List Int)⟩
def k25 : Kd S25:=Kd.iso (Kd.pair Kd.bool (Kd.pair (Kd.slice 35 (Kd.int .u32)) (Kd.slice 35 (Kd.int .u32)))) (fun x : S25=>(x.f0,x.f1,x.f2))
theorem k25_open {w : World} {x : S25} {cs : List Value} (h : k25.K w x cs) : ∃ A1 c1 A2 c2,cs=[.bool x.f0,.slice A1 x.f1.length c1,.slice A2 x.f2.length c2]∧x.f1.length≤c1∧(Kd.int .u32).C w A1 x.f1.length x.f1∧x.f2.length≤c2∧(Kd.int .u32).C w A2 x.f2.length x.f2:=by
 obtain ⟨_,_,rfl,rfl,⟨_,_,rfl,⟨A1,c1,rfl,l1,g1⟩,⟨A2,c2,rfl,l2,g2⟩⟩⟩:=h
 exact ⟨A1,c1,A2,c2,rfl,l1,g1,l2,g2⟩
theorem k25_mk (w : World) (x : S25) {A1 : Option Addr} {c1 : Nat} (l1 : x.f1.length≤c1) (g1 : (Kd.int .u32).C w A1 x.f1.length x.f1) {A2 : Option Addr} {c2 : Nat} (l2 : x.f2.length≤c2) (g2 : (Kd.int .u32).C w A2 x.f2.length x.f2) : k25.K w x [.bool x.f0,.slice A1 x.f1.length c1,.slice A2 x.f2.length c2]:=⟨[.bool x.f0],[.slice A1 x.f1.length c1,.slice A2 x.f2.length c2],rfl,rfl,⟨[.slice A1 x.f1.length c1],[.slice A2 x.f2.length c2],rfl,⟨A1,c1,rfl,l1,g1⟩,⟨A2,c2,rfl,l2,g2⟩⟩⟩
def rd_T25 (xs : List S25) (i : Int) : S25:=xs.getD i.toNat z25
theorem at_T25 {w : World} {A : Option Addr} {n : Nat} {xs : List S25} (h : Kd.C k25 w A n xs) (i : Int) (h0 : 0≤i) (h1 : i < n) : ∃ ad A1 c1 A2 c2,A=some ad∧w.cell? (ad.add (i.toNat * 3))=some (.bool (rd_T25 xs i).f0)∧w.cell? ⟨(ad.add (i.toNat * 3)).block,(ad.add (i.toNat * 3)).off+1,none⟩=some (.slice A1 (rd_T25 xs i).f1.length c1)∧w.cell? ⟨(ad.add (i.toNat * 3)).block,(ad.add (i.toNat * 3)).off+2,none⟩=some (.slice A2 (rd_T25 xs i).f2.length c2)∧(rd_T25 xs i).f1.length≤c1∧(Kd.int .u32).C w A1 (rd_T25 xs i).f1.length (rd_T25 xs i).f1∧(rd_T25 xs i).f2.length≤c2∧(Kd.int .u32).C w A2 (rd_T25 xs i).f2.length (rd_T25 xs i).f2:=by
 obtain ⟨ad,c,e,_,hK,hc0⟩:=Kd.C_get h z25 i h0 h1
 have hc : ∀ j u,c[j]? = some u→w.cell? (ad.add (i.toNat * 3+j))=some u:=hc0
 obtain ⟨A1,c1,A2,c2,rfl,l1,g1,l2,g2⟩:=k25_open hK
 exact ⟨ad,A1,c1,A2,c2,e,hc 0 _ rfl,by rw [← add_field _ _ 1 (by omega)];exact hc 1 _ rfl,by rw [← add_field _ _ 2 (by omega)];exact hc 2 _ rfl,l1,g1,l2,g2⟩
end Go.Proofs.YtncdiodnbkhacaaDoor.Pq
end
section
namespace Go.Proofs.YtncdiodnbkhacaaDoor.Pq
open Go.RowKit Go.Proofs.YtncdiodnbkhacaaDoorW.PrintWords Go.Proofs.YtncdiodnbkhacaaDoorW.PrintLast Go.Proofs.YtncdiodnbkhacaaDoorW.PrintMore
set_option linter.unusedVariables false
def nat_trim.n (l : List Int) : Nat→Nat
|0=>0
|m+1=>if l.getD m 0=0 then nat_trim.n l m else m+1
def nat_trim.f (l0 : List Int) : Option (List Int):=some (l0.take (nat_trim.n l0 l0.length))
def slices_Clone_uint32_uint32.f (l0 : List Int) : Option (List Int):=if l0.length < 35184372088832 then some l0 else none
def nat_Norm.f (l0 : List Int) : Option (List Int):=(nat_trim.f l0).bind fun t101=>((slices_Clone_uint32_uint32.f t101).bind fun t103=>(some t103))
def nat_Cmp.l0 : Nat→List Int→List Int→Int→Option (Int)
|0,_,_,_=>none
|k+1,x0,x1,x5=>if x5 ≥ 0 then (if 0≤x5 then (if x5 < (x0.length : Int) then (if x5 < (x1.length : Int) then (if (rd x0 x5) < (rd x1 x5) then (some (-1)) else (if (rd x0 x5) > (rd x1 x5) then (some 1) else (nat_Cmp.l0 k x0 x1 (wrap64 (x5 - 1))))) else (none)) else (none)) else (none)) else (some 0)
def nat_Cmp.f (k : Nat) (l0 : List Int) (l1 : List Int) : Option (Int):=(nat_trim.f l0).bind fun t106=>((nat_trim.f l1).bind fun t108=>(if (t106.length : Int)=(t108.length : Int) then (nat_Cmp.l0 k t106 t108 (wrap64 ((t106.length : Int) - 1))) else (if (t106.length : Int) < (t108.length : Int) then (some (-1)) else (some 1))))
def bits_Div32.f (a0 : Int) (a1 : Int) (a2 : Int) : Option (Int × Int):=if (0≤a0∧a0 < a2)∧(0≤a1∧a1 < 4294967296)∧a2 < 4294967296 then some ((a0 * 4294967296+a1) / a2,(a0 * 4294967296+a1) % a2) else none
def nat_small.l0 : Nat→List Int→Int→List Int→Int→Int→Option (List Int × List Int)
|0,_,_,_,_,_=>none
|k+1,x0,x1,x6,x7,x8=>if x8 ≥ 0 then (if 0≤x8 then (if x8 < (x0.length : Int) then ((bits_Div32.f x7 (rd x0 x8) x1).bind fun bt118=>(if x8 < (x6.length : Int) then (nat_small.l0 k x0 x1 (x6.set (x8 : Int).toNat bt118.1) bt118.2 (wrap64 (x8 - 1))) else (none))) else (none)) else (none)) else ((nat_trim.f x6).bind fun t121=>((nat_trim.f (([x7] : List Int))).bind fun t127=>(some (t121,t127))))
def nat_small.f (k : Nat) (l0 : List Int) (a1 : Int) : Option (List Int × List Int):=if 0≤(l0.length : Int) then (if ((l0.length : Int) : Int).toNat≤70368744177664 then (nat_small.l0 k l0 a1 (List.replicate ((l0.length : Int) : Int).toNat 0) 0 (wrap64 ((l0.length : Int) - 1))) else (none)) else (none)
def bits_Len32.f (a0 : Int) : Option (Int):=if a0 ≥ 65536 then (if (a0 / 65536) ≥ 256 then (if 0≤(((a0 / 65536) / 256) % 256) then (if (((a0 / 65536) / 256) % 256) < 256 then (some (wrap64 ((16+8)+(wrap64 (bt (⟨#[0,1,2,2,3,3,3,3,4,4,4,4,4,4,4,4,5,5,5,5,5,5,5,5,5,5,5,5,5,5,5,5,6,6,6,6,6,6,6,6,6,6,6,6,6,6,6,6,6,6,6,6,6,6,6,6,6,6,6,6,6,6,6,6,7,7,7,7,7,7,7,7,7,7,7,7,7,7,7,7,7,7,7,7,7,7,7,7,7,7,7,7,7,7,7,7,7,7,7,7,7,7,7,7,7,7,7,7,7,7,7,7,7,7,7,7,7,7,7,7,7,7,7,7,7,7,7,7,8,8,8,8,8,8,8,8,8,8,8,8,8,8,8,8,8,8,8,8,8,8,8,8,8,8,8,8,8,8,8,8,8,8,8,8,8,8,8,8,8,8,8,8,8,8,8,8,8,8,8,8,8,8,8,8,8,8,8,8,8,8,8,8,8,8,8,8,8,8,8,8,8,8,8,8,8,8,8,8,8,8,8,8,8,8,8,8,8,8,8,8,8,8,8,8,8,8,8,8,8,8,8,8,8,8,8,8,8,8,8,8,8,8,8,8,8,8,8,8,8,8,8,8,8,8,8,8]⟩ : ByteArray) (((a0 / 65536) / 256) % 256)))))) else (none)) else (none)) else (if 0≤((a0 / 65536) % 256) then (if ((a0 / 65536) % 256) < 256 then (some (wrap64 (16+(wrap64 (bt (⟨#[0,1,2,2,3,3,3,3,4,4,4,4,4,4,4,4,5,5,5,5,5,5,5,5,5,5,5,5,5,5,5,5,6,6,6,6,6,6,6,6,6,6,6,6,6,6,6,6,6,6,6,6,6,6,6,6,6,6,6,6,6,6,6,6,7,7,7,7,7,7,7,7,7,7,7,7,7,7,7,7,7,7,7,7,7,7,7,7,7,7,7,7,7,7,7,7,7,7,7,7,7,7,7,7,7,7,7,7,7,7,7,7,7,7,7,7,7,7,7,7,7,7,7,7,7,7,7,7,8,8,8,8,8,8,8,8,8,8,8,8,8,8,8,8,8,8,8,8,8,8,8,8,8,8,8,8,8,8,8,8,8,8,8,8,8,8,8,8,8,8,8,8,8,8,8,8,8,8,8,8,8,8,8,8,8,8,8,8,8,8,8,8,8,8,8,8,8,8,8,8,8,8,8,8,8,8,8,8,8,8,8,8,8,8,8,8,8,8,8,8,8,8,8,8,8,8,8,8,8,8,8,8,8,8,8,8,8,8,8,8,8,8,8,8,8,8,8,8,8,8,8,8,8,8,8,8]⟩ : ByteArray) ((a0 / 65536) % 256)))))) else (none)) else (none))) else (if a0 ≥ 256 then (if 0≤((a0 / 256) % 256) then (if ((a0 / 256) % 256) < 256 then (some (wrap64 ((0+8)+(wrap64 (bt (⟨#[0,1,2,2,3,3,3,3,4,4,4,4,4,4,4,4,5,5,5,5,5,5,5,5,5,5,5,5,5,5,5,5,6,6,6,6,6,6,6,6,6,6,6,6,6,6,6,6,6,6,6,6,6,6,6,6,6,6,6,6,6,6,6,6,7,7,7,7,7,7,7,7,7,7,7,7,7,7,7,7,7,7,7,7,7,7,7,7,7,7,7,7,7,7,7,7,7,7,7,7,7,7,7,7,7,7,7,7,7,7,7,7,7,7,7,7,7,7,7,7,7,7,7,7,7,7,7,7,8,8,8,8,8,8,8,8,8,8,8,8,8,8,8,8,8,8,8,8,8,8,8,8,8,8,8,8,8,8,8,8,8,8,8,8,8,8,8,8,8,8,8,8,8,8,8,8,8,8,8,8,8,8,8,8,8,8,8,8,8,8,8,8,8,8,8,8,8,8,8,8,8,8,8,8,8,8,8,8,8,8,8,8,8,8,8,8,8,8,8,8,8,8,8,8,8,8,8,8,8,8,8,8,8,8,8,8,8,8,8,8,8,8,8,8,8,8,8,8,8,8,8,8,8,8,8,8]⟩ : ByteArray) ((a0 / 256) % 256)))))) else (none)) else (none)) else (if 0≤((a0) % 256) then (if ((a0) % 256) < 256 then (some (wrap64 (0+(wrap64 (bt (⟨#[0,1,2,2,3,3,3,3,4,4,4,4,4,4,4,4,5,5,5,5,5,5,5,5,5,5,5,5,5,5,5,5,6,6,6,6,6,6,6,6,6,6,6,6,6,6,6,6,6,6,6,6,6,6,6,6,6,6,6,6,6,6,6,6,7,7,7,7,7,7,7,7,7,7,7,7,7,7,7,7,7,7,7,7,7,7,7,7,7,7,7,7,7,7,7,7,7,7,7,7,7,7,7,7,7,7,7,7,7,7,7,7,7,7,7,7,7,7,7,7,7,7,7,7,7,7,7,7,8,8,8,8,8,8,8,8,8,8,8,8,8,8,8,8,8,8,8,8,8,8,8,8,8,8,8,8,8,8,8,8,8,8,8,8,8,8,8,8,8,8,8,8,8,8,8,8,8,8,8,8,8,8,8,8,8,8,8,8,8,8,8,8,8,8,8,8,8,8,8,8,8,8,8,8,8,8,8,8,8,8,8,8,8,8,8,8,8,8,8,8,8,8,8,8,8,8,8,8,8,8,8,8,8,8,8,8,8,8,8,8,8,8,8,8,8,8,8,8,8,8,8,8,8,8,8,8]⟩ : ByteArray) ((a0) % 256)))))) else (none)) else (none)))
def bits_LeadingZeros32.f (a0 : Int) : Option (Int):=(bits_Len32.f a0).bind fun t130=>(some (wrap64 (32 - t130)))
mutual
def nat_Shl.j0 : Nat→List Int→Int→Bool→Option (List Int × Bool)
|0,_,_,_=>none
|k+1,x0,x1,x15=>if x15=true then (some (([] : List Int),false)) else (if 0≤(wrap64 (Int.tdiv x1 32)) then (if (wrap64 (Int.tdiv x1 32) : Int).toNat≤70368744177664 then ((nat_trim.f x0).bind fun t134=>(nat_Shl.l0 k x1 (List.replicate (wrap64 (Int.tdiv x1 32) : Int).toNat 0) 0 t134 (t134.length : Int) 0)) else (none)) else (none))
def nat_Shl.l0 : Nat→Int→List Int→Int→List Int→Int→Int→Option (List Int × Bool)
|0,_,_,_,_,_,_=>none
|k+1,x1,x6,x7,x20,x21,x22=>if x22 < x21 then (if 0≤x22 then (if x22 < (x20.length : Int) then (if 0≤(Int.tmod x1 32) then (if x6.length < 35184372088832 then (if 0≤(wrap64 (32 - (Int.tmod x1 32))) then (nat_Shl.l0 k x1 (x6++[Go.bits .or .u32 (shl .u32 (rd x20 x22) (Int.tmod x1 32)) x7]) ((shr .u64 (IntKind.u64.wrap (rd x20 x22)) (wrap64 (32 - (Int.tmod x1 32)))) % 4294967296) x20 x21 (wrap64 (x22+1))) else (none)) else (none)) else (none)) else (none)) else (none)) else (if x6.length < 35184372088832 then ((nat_trim.f (x6++[x7])).bind fun t143=>(some (t143,true))) else (none))
end
def nat_Shl.f (k : Nat) (l0 : List Int) (a1 : Int) : Option (List Int × Bool):=if a1 < 0 then (nat_Shl.j0 k l0 a1 true) else (nat_Shl.j0 k l0 a1 (decide (a1 > 65536)))
def bits_Sub32.b (a0 a1 a2 : Int) : Int:=if a0 < a1+a2 then 1 else 0
def bits_Sub32.f (a0 : Int) (a1 : Int) (a2 : Int) : Option (Int × Int):=if (0≤a0∧a0 < 4294967296)∧(0≤a1∧a1 < 4294967296)∧(0≤a2∧a2≤1) then some ((a0 - a1 - a2) % 4294967296,bits_Sub32.b a0 a1 a2) else none
def nat_less.at (l lv : List Int) (j : Nat) (t : Int) : Nat→Option (List Int × Int × Int)
|0=>some (l,0,0)
|i+1=>(nat_less.at l lv j t i).bind fun s =>
   if (0≤t∧t < 18446744073709551616)∧(0≤rd lv i∧rd lv i < 4294967296)∧0≤s.2.1∧0≤t * rd lv i∧t * rd lv i+s.2.1 < 18446744073709551616
   then (bits_Sub32.f (rd s.1 ((j+i : Nat) : Int)) ((t * rd lv i+s.2.1) % 4294967296) s.2.2).bind fun d=>some (s.1.set (j+i) d.1,(t * rd lv i+s.2.1) / 4294967296,d.2)
   else none
def nat_less.f (l : List Int) (j : Nat) (lv : List Int) (t : Int) : Option (Bool × List Int) :=
 (nat_less.at l lv j t lv.length).bind fun s=>if 0≤s.2.1∧s.2.1 < 18446744073709551616 then (bits_Sub32.f (rd s.1 ((j+lv.length : Nat) : Int)) (s.2.1 % 4294967296) s.2.2).bind fun d=>some (d.2 != 0,s.1.set (j+lv.length) d.1) else none
def bits_Add32.f (a0 : Int) (a1 : Int) (a2 : Int) : Option (Int × Int):=some ((IntKind.u64.wrap ((IntKind.u64.wrap ((IntKind.u64.wrap (a0))+(IntKind.u64.wrap (a1))))+(IntKind.u64.wrap (a2)))) % 4294967296,((IntKind.u64.wrap ((IntKind.u64.wrap ((IntKind.u64.wrap (a0))+(IntKind.u64.wrap (a1))))+(IntKind.u64.wrap (a2)))) / 4294967296) % 4294967296)
def nat_back.at (l lv : List Int) (j : Nat) : Nat→Option (List Int × Int)
|0=>some (l,0)
|i+1=>(nat_back.at l lv j i).bind fun s=>(bits_Add32.f (rd s.1 ((j+i : Nat) : Int)) (rd lv i) s.2).bind fun d=>some (s.1.set (j+i) d.1,d.2)
def nat_back.f (l : List Int) (j : Nat) (lv : List Int) : Option (List Int) :=
 (nat_back.at l lv j lv.length).bind fun s=>some (s.1.set (j+lv.length) ((rd s.1 ((j+lv.length : Nat) : Int)+s.2) % 4294967296))
def nat_shr.l0 : Nat→List Int→Int→List Int→List Int→Int→Int→Option (List Int)
|0,_,_,_,_,_,_=>none
|k+1,x0,x1,x5,x12,x13,x14=>if x14 < x13 then (if 0≤x14 then (if x14 < (x12.length : Int) then (if (wrap64 (x14+1)) < (x0.length : Int) then (if 0≤(wrap64 (x14+1)) then (if 0≤x1 then (if x14 < (x5.length : Int) then (nat_shr.l0 k x0 x1 (x5.set (x14 : Int).toNat ((shr .u64 (Go.bits .or .u64 (IntKind.u64.wrap ((IntKind.u64.wrap (rd x0 (wrap64 (x14+1)))) * 4294967296)) (IntKind.u64.wrap (rd x12 x14))) x1) % 4294967296)) x12 x13 (wrap64 (x14+1))) else (none)) else (none)) else (none)) else (if 0≤x1 then (if x14 < (x5.length : Int) then (nat_shr.l0 k x0 x1 (x5.set (x14 : Int).toNat ((shr .u64 (Go.bits .or .u64 0 (IntKind.u64.wrap (rd x12 x14))) x1) % 4294967296)) x12 x13 (wrap64 (x14+1))) else (none)) else (none))) else (none)) else (none)) else ((nat_trim.f x5).bind fun t153=>(some t153))
def nat_shr.f (k : Nat) (l0 : List Int) (a1 : Int) : Option (List Int):=if 0≤(l0.length : Int) then (if ((l0.length : Int) : Int).toNat≤70368744177664 then (nat_shr.l0 k l0 a1 (List.replicate ((l0.length : Int) : Int).toNat 0) l0 (l0.length : Int) 0) else (none)) else (none)
mutual
def nat_long.l0 : Nat→List Int→Int→List Int→List Int→Int→Option (List Int × List Int)
|0,_,_,_,_,_=>none
|k+1,x0,x6,x7,x9,x11=>if (x9.length : Int)≤(x0.length : Int) then (if x9.length < 35184372088832 then (nat_long.l0 k x0 x6 x7 (x9++[0]) x11) else (none)) else (if 0≤(wrap64 ((x9.length : Int) - x11)) then (if (wrap64 ((x9.length : Int) - x11) : Int).toNat≤70368744177664 then (nat_long.l1 k x6 x7 x9 x11 (List.replicate (wrap64 ((x9.length : Int) - x11) : Int).toNat 0) (wrap64 ((wrap64 ((x9.length : Int) - x11)) - 1))) else (none)) else (none))
def nat_long.l1 : Nat→Int→List Int→List Int→Int→List Int→Int→Option (List Int × List Int)
|0,_,_,_,_,_,_=>none
|k+1,x6,x7,x9,x11,x12,x13=>if x13 ≥ 0 then (if 0≤(wrap64 (x13+x11)) then (if (wrap64 (x13+x11)) < (x9.length : Int) then (if 0≤(wrap64 ((wrap64 (x13+x11)) - 1)) then (if (wrap64 ((wrap64 (x13+x11)) - 1)) < (x9.length : Int) then (if 0≤(wrap64 (x11 - 1)) then (if (wrap64 (x11 - 1)) < (x7.length : Int) then (if (IntKind.u64.wrap (rd x7 (wrap64 (x11 - 1))))=0 then (none) else (nat_long.l2 k x6 x7 x9 x11 x12 x13 (IntKind.u64.wrap (Int.tdiv (Go.bits .or .u64 (IntKind.u64.wrap ((IntKind.u64.wrap (rd x9 (wrap64 (x13+x11)))) * 4294967296)) (IntKind.u64.wrap (rd x9 (wrap64 ((wrap64 (x13+x11)) - 1))))) (IntKind.u64.wrap (rd x7 (wrap64 (x11 - 1)))))) (Int.tmod (Go.bits .or .u64 (IntKind.u64.wrap ((IntKind.u64.wrap (rd x9 (wrap64 (x13+x11)))) * 4294967296)) (IntKind.u64.wrap (rd x9 (wrap64 ((wrap64 (x13+x11)) - 1))))) (IntKind.u64.wrap (rd x7 (wrap64 (x11 - 1))))))) else (none)) else (none)) else (none)) else (none)) else (none)) else (none)) else ((nat_trim.f x12).bind fun t172=>(if 0≤x11 then (if x11≤(x9.length : Int) then ((nat_shr.f k (x9.take (x11 : Int).toNat) x6).bind fun t179=>(some (t172,t179))) else (none)) else (none)))
def nat_long.j4 : Nat→Int→List Int→List Int→Int→List Int→Int→Int→Option (List Int × List Int)
|0,_,_,_,_,_,_,_=>none
|k+1,x6,x7,x9,x11,x12,x13,x15=>if 0≤x13 then (if x13 < (wrap64 ((wrap64 (x13+x11))+1)) then (if (wrap64 ((wrap64 (x13+x11))+1))≤(x9.length : Int) then (if x13+(x7.length : Int) < (wrap64 ((wrap64 (x13+x11))+1)) then ((nat_less.f x9 (x13 : Int).toNat x7 x15).bind fun bt189=>(if bt189.1=true then ((nat_back.f bt189.2 (x13 : Int).toNat x7).bind fun t191=>(if x13 < (x12.length : Int) then (nat_long.l1 k x6 x7 t191 x11 (x12.set (x13 : Int).toNat ((IntKind.u64.wrap (x15 - 1)) % 4294967296)) (wrap64 (x13 - 1))) else (none))) else (if x13 < (x12.length : Int) then (nat_long.l1 k x6 x7 bt189.2 x11 (x12.set (x13 : Int).toNat ((x15) % 4294967296)) (wrap64 (x13 - 1))) else (none)))) else (none)) else (none)) else (none)) else (none)
def nat_long.l2 : Nat→Int→List Int→List Int→Int→List Int→Int→Int→Int→Option (List Int × List Int)
|0,_,_,_,_,_,_,_,_=>none
|k+1,x6,x7,x9,x11,x12,x13,x15,x16=>if x15 ≥ 4294967296 then (nat_long.j3 k x6 x7 x9 x11 x12 x13 x15 x16 true) else (if x16 < 4294967296 then (if 0≤(wrap64 (x11 - 2)) then (if (wrap64 (x11 - 2)) < (x7.length : Int) then (if 0≤(wrap64 ((wrap64 (x13+x11)) - 2)) then (if (wrap64 ((wrap64 (x13+x11)) - 2)) < (x9.length : Int) then (nat_long.j3 k x6 x7 x9 x11 x12 x13 x15 x16 (decide ((IntKind.u64.wrap (x15 * (IntKind.u64.wrap (rd x7 (wrap64 (x11 - 2)))))) > (Go.bits .or .u64 (IntKind.u64.wrap (x16 * 4294967296)) (IntKind.u64.wrap (rd x9 (wrap64 ((wrap64 (x13+x11)) - 2)))))))) else (none)) else (none)) else (none)) else (none)) else (nat_long.j3 k x6 x7 x9 x11 x12 x13 x15 x16 false))
def nat_long.j3 : Nat→Int→List Int→List Int→Int→List Int→Int→Int→Int→Bool→Option (List Int × List Int)
|0,_,_,_,_,_,_,_,_,_=>none
|k+1,x6,x7,x9,x11,x12,x13,x15,x16,x120=>if x120=true then (if 0≤(wrap64 (x11 - 1)) then (if (wrap64 (x11 - 1)) < (x7.length : Int) then (if (IntKind.u64.wrap (x16+(IntKind.u64.wrap (rd x7 (wrap64 (x11 - 1)))))) ≥ 4294967296 then (nat_long.j4 k x6 x7 x9 x11 x12 x13 (IntKind.u64.wrap (x15 - 1))) else (nat_long.l2 k x6 x7 x9 x11 x12 x13 (IntKind.u64.wrap (x15 - 1)) (IntKind.u64.wrap (x16+(IntKind.u64.wrap (rd x7 (wrap64 (x11 - 1)))))))) else (none)) else (none)) else (nat_long.j4 k x6 x7 x9 x11 x12 x13 x15)
end
def nat_long.f (k : Nat) (l0 : List Int) (l1 : List Int) : Option (List Int × List Int):=if 0≤(wrap64 ((l1.length : Int) - 1)) then (if (wrap64 ((l1.length : Int) - 1)) < (l1.length : Int) then ((bits_LeadingZeros32.f (rd l1 (wrap64 ((l1.length : Int) - 1)))).bind fun t157=>((nat_Shl.f k l1 t157).bind fun bt158=>((nat_Shl.f k l0 t157).bind fun bt162=>(nat_long.l0 k l0 t157 bt158.1 bt162.1 (bt158.1.length : Int))))) else (none)) else (none)
def nat_DivMod.f (k : Nat) (l0 : List Int) (l1 : List Int) : Option (List Int × List Int × Bool):=(nat_trim.f l0).bind fun t194=>((nat_trim.f l1).bind fun t196=>(if (t196.length : Int)=0 then (some (([] : List Int),([] : List Int),false)) else ((nat_Cmp.f k t194 t196).bind fun t198=>(if t198 < 0 then ((nat_Norm.f t194).bind fun t199=>(some (([] : List Int),t199,true))) else (if (t196.length : Int)=1 then (if 0 < (t196.length : Int) then ((nat_small.f k t194 (rd t196 0)).bind fun bt203=>(some (bt203.1,bt203.2,true))) else (none)) else ((nat_long.f k t194 t196).bind fun bt209=>(some (bt209.1,bt209.2,true))))))))
def rat_one.f  : Option (List Int):=some (([1] : List Int))
def root_Gcd.l0 : Nat→List Int→List Int→Option (List Int)
|0,_,_=>none
|k+1,x0,x1=>if (x1.length : Int) > 0 then ((nat_DivMod.f k x0 x1).bind fun bt224=>(root_Gcd.l0 k x1 bt224.2.1)) else (some x0)
def root_Gcd.f (k : Nat) (l0 : List Int) (l1 : List Int) : Option (List Int):=(nat_Norm.f l0).bind fun t218=>((nat_Norm.f l1).bind fun t221=>(root_Gcd.l0 k t218 t221))
mutual
def rat_made.j0 : Nat→Bool→List Int→List Int→Bool→Option (Bool × List Int × List Int)
|0,_,_,_,_=>none
|k+1,x0,x1,x2,x19=>if x19=true then ((rat_one.f).bind fun t238=>(some (false,([] : List Int),t238))) else ((root_Gcd.f k x1 x2).bind fun t241=>(if (t241.length : Int) > 1 then (rat_made.j1 k x0 x1 x2 t241 true) else (if 0 < (t241.length : Int) then (rat_made.j1 k x0 x1 x2 t241 (decide ((rd t241 0) > 1))) else (none))))
def rat_made.j1 : Nat→Bool→List Int→List Int→List Int→Bool→Option (Bool × List Int × List Int)
|0,_,_,_,_,_=>none
|k+1,x0,x1,x2,x7,x33=>if x33=true then ((nat_DivMod.f k x1 x7).bind fun bt245=>((nat_DivMod.f k x2 x7).bind fun bt252=>(some (x0,bt245.1,bt252.1)))) else (some (x0,x1,x2))
end
def rat_made.f (k : Nat) (a0 : Bool) (l1 : List Int) (l2 : List Int) : Option (Bool × List Int × List Int):=(nat_Norm.f l1).bind fun t232=>((nat_Norm.f l2).bind fun t235=>(if (t232.length : Int)=0 then (rat_made.j0 k a0 t232 t235 true) else (rat_made.j0 k a0 t232 t235 ((t235.length : Int) == 0))))
def rat_Read.f (k : Nat) (a0_0 : Bool) (l0_1 : List Int) (l0_2 : List Int) : Option (Bool × List Int × List Int):=(rat_made.f k a0_0 l0_1 l0_2).bind fun bt261=>(some (bt261.1,bt261.2.1,bt261.2.2))
def nat_Of.f (a0 : Int) : Option (List Int):=(nat_Norm.f (([(a0) % 4294967296,(a0 / 4294967296) % 4294967296] : List Int))).bind fun t271=>(some t271)
def rat_size.f (a0 : Int) : Option (List Int):=if a0 < 0 then ((nat_Of.f (IntKind.u64.wrap (-(IntKind.u64.wrap (a0))))).bind fun t274=>(some t274)) else ((nat_Of.f (IntKind.u64.wrap (a0))).bind fun t277=>(some t277))
def rat_Of.f (k : Nat) (a0 : Int) (a1 : Int) : Option (Bool × List Int × List Int):=(rat_size.f a0).bind fun t281=>((rat_size.f a1).bind fun t284=>((rat_made.f k ((decide (a0 < 0)) != (decide (a1 < 0))) t281 t284).bind fun bt287=>(some (bt287.1,bt287.2.1,bt287.2.2))))
def stringslite_HasPrefix.f (a0 : ByteArray) (a1 : ByteArray) : Option (Bool):=if (a0.size : Int) ≥ (a1.size : Int) then (if 0≤(a1.size : Int) then (if (a1.size : Int)≤(a0.size : Int) then (some ((a0.extract 0 ((a1.size : Int) : Int).toNat).toList == a1.toList)) else (none)) else (none)) else (some false)
def stringslite_CutPrefix.f (a0 : ByteArray) (a1 : ByteArray) : Option (ByteArray × Bool):=(stringslite_HasPrefix.f a0 a1).bind fun t294=>(if t294=true then (if 0≤(a1.size : Int) then (if (a1.size : Int)≤(a0.size : Int) then (some (a0.extract ((a1.size : Int) : Int).toNat a0.size,true)) else (none)) else (none)) else (some (a0,false)))
def strings_CutPrefix.f (a0 : ByteArray) (a1 : ByteArray) : Option (ByteArray × Bool):=(stringslite_CutPrefix.f a0 a1).bind fun bt295=>(some (bt295.1,bt295.2))
def strings_TrimLeft.f (a0 : ByteArray) (a1 : ByteArray) : Option (ByteArray):=if a1.size < 4294967281∧(a1.data.toList.all fun b=>decide (b.toNat < 128))=true then some ⟨(a0.data.toList.dropWhile fun x=>a1.data.toList.contains x).toArray⟩ else none
def decimal_digits.f (a0 : ByteArray) : Option (Int):=(strings_TrimLeft.f a0 (⟨#[48,49,50,51,52,53,54,55,56,57]⟩ : ByteArray)).bind fun t297=>(some (wrap64 ((a0.size : Int) - (t297.size : Int))))
def strings_Repeat.n (l : List UInt8) : Nat→List UInt8
|0=>[]
|n+1=>l++strings_Repeat.n l n
def strings_Repeat.f (a0 : ByteArray) (a1 : Int) : Option (ByteArray):=if 0≤a1∧a1≤9223372036854775807∧a0.size * a1.toNat≤140737488355328 then some ⟨(strings_Repeat.n a0.data.toList a1.toNat).toArray⟩ else none
mutual
def nat_Mul.l0 : Nat→List Int→List Int→List Int→Int→Int→Option (List Int)
|0,_,_,_,_,_=>none
|k+1,x1,x5,x22,x23,x24=>if x24 < x23 then (if 0≤x24 then (if x24 < (x22.length : Int) then (nat_Mul.l1 k x1 x5 x24 (rd x22 x24) 0 x22 x23 x24 x1 (x1.length : Int) 0) else (none)) else (none)) else ((nat_trim.f x5).bind fun t308=>(some t308))
def nat_Mul.l1 : Nat→List Int→List Int→Int→Int→Int→List Int→Int→Int→List Int→Int→Int→Option (List Int)
|0,_,_,_,_,_,_,_,_,_,_,_=>none
|k+1,x1,x5,x6,x7,x8,x22,x23,x24,x29,x30,x31=>if x31 < x30 then (if 0≤x31 then (if x31 < (x29.length : Int) then (if 0≤(wrap64 (x6+x31)) then (if (wrap64 (x6+x31)) < (x5.length : Int) then (nat_Mul.l1 k x1 (x5.set ((wrap64 (x6+x31)) : Int).toNat ((IntKind.u64.wrap ((IntKind.u64.wrap ((IntKind.u64.wrap ((IntKind.u64.wrap (x7)) * (IntKind.u64.wrap (rd x29 x31))))+(IntKind.u64.wrap (rd x5 (wrap64 (x6+x31))))))+x8)) % 4294967296)) x6 x7 ((IntKind.u64.wrap ((IntKind.u64.wrap ((IntKind.u64.wrap ((IntKind.u64.wrap (x7)) * (IntKind.u64.wrap (rd x29 x31))))+(IntKind.u64.wrap (rd x5 (wrap64 (x6+x31))))))+x8)) / 4294967296) x22 x23 x24 x29 x30 (wrap64 (x31+1))) else (none)) else (none)) else (none)) else (none)) else (if 0≤(wrap64 (x6+(x1.length : Int))) then (if (wrap64 (x6+(x1.length : Int))) < (x5.length : Int) then (nat_Mul.l0 k x1 (x5.set ((wrap64 (x6+(x1.length : Int))) : Int).toNat ((x8) % 4294967296)) x22 x23 (wrap64 (x24+1))) else (none)) else (none))
end
def nat_Mul.f (k : Nat) (l0 : List Int) (l1 : List Int) : Option (List Int):=(nat_trim.f l0).bind fun t301=>((nat_trim.f l1).bind fun t303=>(if 0≤(wrap64 ((t301.length : Int)+(t303.length : Int))) then (if (wrap64 ((t301.length : Int)+(t303.length : Int)) : Int).toNat≤70368744177664 then (nat_Mul.l0 k t303 (List.replicate (wrap64 ((t301.length : Int)+(t303.length : Int)) : Int).toNat 0) t301 (t301.length : Int) 0) else (none)) else (none)))
mutual
def nat_Add.l0 : Nat→List Int→List Int→Int→List Int→Int→Int→Option (List Int)
|0,_,_,_,_,_,_=>none
|k+1,x1,x5,x6,x26,x27,x28=>if x28 < x27 then (if 0≤x28 then (if x28 < (x26.length : Int) then (if x28 < (x1.length : Int) then ((bits_Add32.f (rd x26 x28) (rd x1 x28) x6).bind fun bt325=>(if x5.length < 35184372088832 then (nat_Add.l0 k x1 (x5++[bt325.1]) bt325.2 x26 x27 (wrap64 (x28+1))) else (none))) else ((bits_Add32.f (rd x26 x28) 0 x6).bind fun bt330=>(if x5.length < 35184372088832 then (nat_Add.l0 k x1 (x5++[bt330.1]) bt330.2 x26 x27 (wrap64 (x28+1))) else (none)))) else (none)) else (none)) else (if x5.length < 35184372088832 then ((nat_trim.f (x5++[x6])).bind fun t338=>(some t338)) else (none))
def nat_Add.l100 : Nat→List Int→List Int→Int→List Int→Int→Int→Option (List Int)
|0,_,_,_,_,_,_=>none
|k+1,x1,x5,x6,x26,x27,x28=>if x28 < x27 then (if 0≤x28 then (if x28 < (x26.length : Int) then (if x28 < (x1.length : Int) then ((bits_Add32.f (rd x26 x28) (rd x1 x28) x6).bind fun bt346=>(if x5.length < 35184372088832 then (nat_Add.l100 k x1 (x5++[bt346.1]) bt346.2 x26 x27 (wrap64 (x28+1))) else (none))) else ((bits_Add32.f (rd x26 x28) 0 x6).bind fun bt351=>(if x5.length < 35184372088832 then (nat_Add.l100 k x1 (x5++[bt351.1]) bt351.2 x26 x27 (wrap64 (x28+1))) else (none)))) else (none)) else (none)) else (if x5.length < 35184372088832 then ((nat_trim.f (x5++[x6])).bind fun t359=>(some t359)) else (none))
end
def nat_Add.f (k : Nat) (l0 : List Int) (l1 : List Int) : Option (List Int):=(nat_trim.f l0).bind fun t316=>((nat_trim.f l1).bind fun t318=>(if (t316.length : Int) < (t318.length : Int) then (if 0≤(wrap64 ((t318.length : Int)+1)) then (if (wrap64 ((t318.length : Int)+1) : Int).toNat≤70368744177664 then (nat_Add.l0 k t316 (([] : List Int)) 0 t318 (t318.length : Int) 0) else (none)) else (none)) else (if 0≤(wrap64 ((t316.length : Int)+1)) then (if (wrap64 ((t316.length : Int)+1) : Int).toNat≤70368744177664 then (nat_Add.l100 k t318 (([] : List Int)) 0 t316 (t316.length : Int) 0) else (none)) else (none))))
mutual
def decimal_number.l0 : Nat→ByteArray→List Int→Option (List Int)
|0,_,_=>none
|k+1,x0,x3=>if (x0.size : Int) > 0 then (decimal_number.l1 k x0 x3 (mn 9 (x0.size : Int)) 0 1 (mn 9 (x0.size : Int)) 0) else (some x3)
def decimal_number.l1 : Nat→ByteArray→List Int→Int→Int→Int→Int→Int→Option (List Int)
|0,_,_,_,_,_,_,_=>none
|k+1,x0,x3,x4,x5,x6,x14,x15=>if x15 < x14 then (if 0≤x15 then (if x15 < (x0.size : Int) then (decimal_number.l1 k x0 x3 x4 (IntKind.u64.wrap ((IntKind.u64.wrap (10 * x5))+(((bt x0 x15) - 48) % 256))) (IntKind.u64.wrap (x6 * 10)) x14 (wrap64 (x15+1))) else (none)) else (none)) else ((nat_Of.f x6).bind fun t362=>((nat_Mul.f k x3 t362).bind fun t365=>((nat_Of.f x5).bind fun t368=>((nat_Add.f k t365 t368).bind fun t371=>(if 0≤x4 then (if x4≤(x0.size : Int) then (decimal_number.l0 k (x0.extract (x4 : Int).toNat x0.size) t371) else (none)) else (none))))))
end
def decimal_number.f (k : Nat) (a0 : ByteArray) : Option (List Int):=decimal_number.l0 k a0 ([] : List Int)
mutual
def decimal_Parse.j1 : Nat→Bool→Int→ByteArray→ByteArray→Bool→List Int→List Int→Option (Bool × List Int × List Int × Int)
|0,_,_,_,_,_,_,_=>none
|k+1,x6,x7,x8,x10,x383000,x383001,x383002=>if x7=0 then (some (x383000,x383001,x383002,40)) else ((decimal_number.f k x10).bind fun t388=>(if (t388.length : Int)=0 then (some (x383000,x383001,x383002,42)) else ((decimal_number.f k x8).bind fun t391=>((rat_Read.f k x6 t391 t388).bind fun bt394=>(some (bt394.1,bt394.2.1,bt394.2.2,0))))))
def decimal_Parse.j0 : Nat→Bool→Int→ByteArray→ByteArray→ByteArray→Bool→Bool→List Int→List Int→Option (Bool × List Int × List Int × Int)
|0,_,_,_,_,_,_,_,_,_=>none
|k+1,x6,x7,x8,x9,x11,x55,x383000,x383001,x383002=>if x55=true then (some (x383000,x383001,x383002,40)) else (if 0 < (x9.size : Int) then (if (bt x9 0)=46 then (if x8.size+x11.size≤9223372036854775807 then ((strings_Repeat.f (⟨#[48]⟩ : ByteArray) (x11.size : Int)).bind fun t387=>(if 1+t387.size≤9223372036854775807 then (decimal_Parse.j1 k x6 x7 (x8++x11) ((⟨#[49]⟩ : ByteArray)++t387) x383000 x383001 x383002) else (none))) else (none)) else (decimal_Parse.j1 k x6 x7 x8 x11 x383000 x383001 x383002)) else (none))
end
def decimal_Parse.f (k : Nat) (a0 : ByteArray) : Option (Bool × List Int × List Int × Int):=(rat_Of.f k 0 1).bind fun bt375=>(if (a0.size : Int) > 20000 then (some (bt375.1,bt375.2.1,bt375.2.2,41)) else ((strings_CutPrefix.f a0 (⟨#[45]⟩ : ByteArray)).bind fun bt383=>((decimal_digits.f bt383.1).bind fun t385=>(if 0≤t385 then (if t385≤(bt383.1.size : Int) then (if (bt383.1.extract (t385 : Int).toNat bt383.1.size).toList=([] : List UInt8) then (decimal_Parse.j1 k bt383.2 t385 (bt383.1.extract 0 (t385 : Int).toNat) (⟨#[49]⟩ : ByteArray) bt375.1 bt375.2.1 bt375.2.2) else (if 1≤((bt383.1.extract (t385 : Int).toNat bt383.1.size).size : Int) then ((decimal_digits.f ((bt383.1.extract (t385 : Int).toNat bt383.1.size).extract 1 (bt383.1.extract (t385 : Int).toNat bt383.1.size).size)).bind fun t386=>(if t386=0 then (decimal_Parse.j0 k bt383.2 t385 (bt383.1.extract 0 (t385 : Int).toNat) (bt383.1.extract (t385 : Int).toNat bt383.1.size) ((bt383.1.extract (t385 : Int).toNat bt383.1.size).extract 1 (bt383.1.extract (t385 : Int).toNat bt383.1.size).size) true bt375.1 bt375.2.1 bt375.2.2) else (if t386 < (((bt383.1.extract (t385 : Int).toNat bt383.1.size).extract 1 (bt383.1.extract (t385 : Int).toNat bt383.1.size).size).size : Int) then (decimal_Parse.j0 k bt383.2 t385 (bt383.1.extract 0 (t385 : Int).toNat) (bt383.1.extract (t385 : Int).toNat bt383.1.size) ((bt383.1.extract (t385 : Int).toNat bt383.1.size).extract 1 (bt383.1.extract (t385 : Int).toNat bt383.1.size).size) true bt375.1 bt375.2.1 bt375.2.2) else (if 0 < ((bt383.1.extract (t385 : Int).toNat bt383.1.size).size : Int) then (if (bt (bt383.1.extract (t385 : Int).toNat bt383.1.size) 0)=46 then (decimal_Parse.j0 k bt383.2 t385 (bt383.1.extract 0 (t385 : Int).toNat) (bt383.1.extract (t385 : Int).toNat bt383.1.size) ((bt383.1.extract (t385 : Int).toNat bt383.1.size).extract 1 (bt383.1.extract (t385 : Int).toNat bt383.1.size).size) false bt375.1 bt375.2.1 bt375.2.2) else (decimal_Parse.j0 k bt383.2 t385 (bt383.1.extract 0 (t385 : Int).toNat) (bt383.1.extract (t385 : Int).toNat bt383.1.size) ((bt383.1.extract (t385 : Int).toNat bt383.1.size).extract 1 (bt383.1.extract (t385 : Int).toNat bt383.1.size).size) ((bt (bt383.1.extract (t385 : Int).toNat bt383.1.size) 0) != 47) bt375.1 bt375.2.1 bt375.2.2)) else (none))))) else (none))) else (none)) else (none)))))
def penumbraref01_Same.l0 : Nat→List Int→List Int→Int→Option (Bool)
|0,_,_,_=>none
|k+1,x0,x1,x5=>if x5 < (x0.length : Int) then (if 0≤x5 then (if x5 < (x1.length : Int) then (if (rd x0 x5)=(rd x1 x5) then (penumbraref01_Same.l0 k x0 x1 (wrap64 (x5+1))) else (some false)) else (none)) else (none)) else (some true)
def penumbraref01_Same.f (k : Nat) (l0 : List Int) (l1 : List Int) : Option (Bool):=if (l0.length : Int)=(l1.length : Int) then (penumbraref01_Same.l0 k l0 l1 0) else (some false)
def penumbraref03_Is.f (k : Nat) (a0_0 : Bool) (l0_1 : List Int) (l0_2 : List Int) (a1_0 : Bool) (l1_1 : List Int) (l1_2 : List Int) : Option (Bool):=if (a0_0 == a1_0)=true then ((penumbraref01_Same.f k l0_1 l1_1).bind fun t405=>(if t405=true then ((penumbraref01_Same.f k l0_2 l1_2).bind fun t406=>(some t406)) else (some false))) else (some false)
def decimal_Natural.n (n : Int) : ByteArray:=strOfNums ((List.range 9).map fun t=>48+n / 10 ^ (8 - t) % 10)
def decimal_Natural.at (l : List Int) : Int:=if (l.length : Int) > 0 then rd l 0 else 0
def decimal_Natural.b (ps : List ByteArray) : List UInt8:=(ps.reverse.map fun p=>p.data.toList).flatten
def decimal_Natural.l0 : Nat→List Int→List Int→List ByteArray→Option (List ByteArray)
|0,_,_,_=>none
|k+1,a,b,ps=>if (a.length : Int) > 0 then ((nat_DivMod.f k a b).bind fun bt=>if 0≤decimal_Natural.at bt.2.1∧decimal_Natural.at bt.2.1 < 4294967296∧ps.length < 8796093022208 then decimal_Natural.l0 k bt.1 b (ps++[decimal_Natural.n (decimal_Natural.at bt.2.1)]) else none) else some ps
def decimal_Natural.f (k : Nat) (l0 : List Int) : Option (ByteArray):=(nat_Norm.f l0).bind fun a=>((nat_Of.f 1000000000).bind fun b=>((decimal_Natural.l0 k a b []).bind fun ps =>
 if ps.length < 8796093021952 then some (if ((decimal_Natural.b ps).dropWhile fun x=>x == 48).isEmpty then ⟨#[48]⟩ else ⟨((decimal_Natural.b ps).dropWhile fun x=>x == 48).toArray⟩) else none))
def decimal_Print.f (k : Nat) (a0_0 : Bool) (l0_1 : List Int) (l0_2 : List Int) : Option (ByteArray):=(rat_Read.f k a0_0 l0_1 l0_2).bind fun bt408=>((decimal_Natural.f k bt408.2.1).bind fun t415=>(if bt408.1=true then (if 1+t415.size≤9223372036854775807 then ((decimal_Natural.f k bt408.2.2).bind fun t416=>(if t416.toList=([49] : List UInt8) then (some ((⟨#[45]⟩ : ByteArray)++t415)) else (if 1+t416.size≤9223372036854775807 then (if ((⟨#[45]⟩ : ByteArray)++t415).size+((⟨#[47]⟩ : ByteArray)++t416).size≤9223372036854775807 then (some (((⟨#[45]⟩ : ByteArray)++t415)++((⟨#[47]⟩ : ByteArray)++t416))) else (none)) else (none)))) else (none)) else ((decimal_Natural.f k bt408.2.2).bind fun t417=>(if t417.toList=([49] : List UInt8) then (some t415) else (if 1+t417.size≤9223372036854775807 then (if t415.size+((⟨#[47]⟩ : ByteArray)++t417).size≤9223372036854775807 then (some (t415++((⟨#[47]⟩ : ByteArray)++t417))) else (none)) else (none))))))
def penumbraref03_Zero.f  : Option (Bool × List Int × List Int):=some (false,([] : List Int),(([1] : List Int)))
def penumbraref01_limb.f (l0 : List Int) (a1 : Int) : Option (Int):=if a1 < (l0.length : Int) then (if 0≤a1 then (some (IntKind.u64.wrap (rd l0 a1))) else (none)) else (some 0)
def penumbraref01_Cmp.l0 : Nat→List Int→List Int→Int→Option (Int)
|0,_,_,_=>none
|k+1,x0,x1,x5=>if x5 ≥ 0 then ((penumbraref01_limb.f x0 x5).bind fun t423=>((penumbraref01_limb.f x1 x5).bind fun t424=>(if t423 < t424 then (some (-1)) else (if t423 > t424 then (some 1) else (penumbraref01_Cmp.l0 k x0 x1 (wrap64 (x5 - 1))))))) else (some 0)
def penumbraref01_Cmp.f (k : Nat) (l0 : List Int) (l1 : List Int) : Option (Int):=penumbraref01_Cmp.l0 k l0 l1 (wrap64 ((mx (l0.length : Int) (l1.length : Int)) - 1))
def penumbraref01_Zero.f (k : Nat) (l0 : List Int) : Option (Bool):=(penumbraref01_Cmp.f k l0 ([] : List Int)).bind fun t425=>(some (t425 == 0))
def penumbraref01_Norm.l0 : Nat→List Int→Int→Option (List Int)
|0,_,_=>none
|k+1,x0,x3=>if x3 > 0 then (if 0≤(wrap64 (x3 - 1)) then (if (wrap64 (x3 - 1)) < (x0.length : Int) then (if (rd x0 (wrap64 (x3 - 1)))=0 then (penumbraref01_Norm.l0 k x0 (wrap64 (x3 - 1))) else ((some (([] : List Int) : List Int)).bind fun y427=>(if 0≤x3 then (if x3≤(x0.length : Int) then (if y427.length+(x0.take (x3 : Int).toNat).length < 35184372088832 then (some (y427++(x0.take (x3 : Int).toNat))) else (none)) else (none)) else (none)))) else (none)) else (none)) else ((some (([] : List Int) : List Int)).bind fun y434=>(if 0≤x3 then (if x3≤(x0.length : Int) then (if y434.length+(x0.take (x3 : Int).toNat).length < 35184372088832 then (some (y434++(x0.take (x3 : Int).toNat))) else (none)) else (none)) else (none)))
def penumbraref01_Norm.f (k : Nat) (l0 : List Int) : Option (List Int):=penumbraref01_Norm.l0 k l0 (l0.length : Int)
mutual
def penumbraref01_Mul.l0 : Nat→List Int→List Int→List Int→Int→Option (List Int)
|0,_,_,_,_=>none
|k+1,x0,x1,x5,x6=>if x6 < (x0.length : Int) then (penumbraref01_Mul.l1 k x0 x1 x5 x6 0 0) else ((penumbraref01_Norm.f k x5).bind fun t444=>(some t444))
def penumbraref01_Mul.l1 : Nat→List Int→List Int→List Int→Int→Int→Int→Option (List Int)
|0,_,_,_,_,_,_=>none
|k+1,x0,x1,x5,x6,x7,x8=>if x8 < (x1.length : Int) then (if 0≤x6 then (if x6 < (x0.length : Int) then (if 0≤x8 then (if 0≤(wrap64 (x6+x8)) then (if (wrap64 (x6+x8)) < (x5.length : Int) then (penumbraref01_Mul.l1 k x0 x1 (x5.set ((wrap64 (x6+x8)) : Int).toNat ((Int.tmod (IntKind.u64.wrap ((IntKind.u64.wrap ((IntKind.u64.wrap ((IntKind.u64.wrap (rd x0 x6)) * (IntKind.u64.wrap (rd x1 x8))))+(IntKind.u64.wrap (rd x5 (wrap64 (x6+x8))))))+x7)) 4294967296) % 4294967296)) x6 (IntKind.u64.wrap (Int.tdiv (IntKind.u64.wrap ((IntKind.u64.wrap ((IntKind.u64.wrap ((IntKind.u64.wrap (rd x0 x6)) * (IntKind.u64.wrap (rd x1 x8))))+(IntKind.u64.wrap (rd x5 (wrap64 (x6+x8))))))+x7)) 4294967296)) (wrap64 (x8+1))) else (none)) else (none)) else (none)) else (none)) else (none)) else (if 0≤(wrap64 (x6+(x1.length : Int))) then (if (wrap64 (x6+(x1.length : Int))) < (x5.length : Int) then (penumbraref01_Mul.l0 k x0 x1 (x5.set ((wrap64 (x6+(x1.length : Int))) : Int).toNat ((x7) % 4294967296)) (wrap64 (x6+1))) else (none)) else (none))
end
def penumbraref01_Mul.f (k : Nat) (l0 : List Int) (l1 : List Int) : Option (List Int):=if 0≤(wrap64 ((wrap64 ((l0.length : Int)+(l1.length : Int)))+1)) then (if (wrap64 ((wrap64 ((l0.length : Int)+(l1.length : Int)))+1) : Int).toNat≤70368744177664 then (penumbraref01_Mul.l0 k l0 l1 (List.replicate (wrap64 ((wrap64 ((l0.length : Int)+(l1.length : Int)))+1) : Int).toNat 0) 0) else (none)) else (none)
mutual
def penumbraref01_Add.l0 : Nat→List Int→List Int→List Int→Int→Int→Option (List Int)
|0,_,_,_,_,_=>none
|k+1,x0,x1,x5,x6,x7=>if x7 < (x0.length : Int) then (penumbraref01_Add.j1 k x0 x1 x5 x6 x7 true) else (penumbraref01_Add.j1 k x0 x1 x5 x6 x7 (decide (x7 < (x1.length : Int))))
def penumbraref01_Add.j1 : Nat→List Int→List Int→List Int→Int→Int→Bool→Option (List Int)
|0,_,_,_,_,_,_=>none
|k+1,x0,x1,x5,x6,x7,x19=>if x19=true then ((penumbraref01_limb.f x0 x7).bind fun t455=>((penumbraref01_limb.f x1 x7).bind fun t456=>(if x5.length < 35184372088832 then (penumbraref01_Add.l0 k x0 x1 (x5++[(Int.tmod (IntKind.u64.wrap ((IntKind.u64.wrap (t455+t456))+x6)) 4294967296) % 4294967296]) (IntKind.u64.wrap (Int.tdiv (IntKind.u64.wrap ((IntKind.u64.wrap (t455+t456))+x6)) 4294967296)) (wrap64 (x7+1))) else (none)))) else (if x5.length < 35184372088832 then ((penumbraref01_Norm.f k (x5++[(x6) % 4294967296])).bind fun t463=>(some t463)) else (none))
end
def penumbraref01_Add.f (k : Nat) (l0 : List Int) (l1 : List Int) : Option (List Int):=penumbraref01_Add.l0 k l0 l1 (([] : List Int)) 0 0
mutual
def penumbraref01_Double.j0 : Nat→List Int→List Int→Int→Option (List Int)
|0,_,_,_=>none
|k+1,x0,x5,x6=>penumbraref01_Double.l0 k x0 x5 x6 0
def penumbraref01_Double.l0 : Nat→List Int→List Int→Int→Int→Option (List Int)
|0,_,_,_,_=>none
|k+1,x0,x5,x6,x7=>if x7 < (x0.length : Int) then (if 0≤x7 then (if x5.length < 35184372088832 then (penumbraref01_Double.l0 k x0 (x5++[(Int.tmod (IntKind.u64.wrap ((IntKind.u64.wrap (2 * (IntKind.u64.wrap (rd x0 x7))))+x6)) 4294967296) % 4294967296]) (IntKind.u64.wrap (Int.tdiv (IntKind.u64.wrap ((IntKind.u64.wrap (2 * (IntKind.u64.wrap (rd x0 x7))))+x6)) 4294967296)) (wrap64 (x7+1))) else (none)) else (none)) else (if x5.length < 35184372088832 then ((penumbraref01_Norm.f k (x5++[(x6) % 4294967296])).bind fun t476=>(some t476)) else (none))
end
def penumbraref01_Double.f (k : Nat) (l0 : List Int) (a1 : Bool) : Option (List Int):=(some (([] : List Int) : List Int)).bind fun y466=>(if a1=true then (penumbraref01_Double.j0 k l0 y466 1) else (penumbraref01_Double.j0 k l0 y466 0))
def penumbraref01_at.f (a0 : Int) (a1 : Int) : Option (List Int):=if 0≤a1 then (if (a1 : Int).toNat≤70368744177664 then ((some (List.replicate (a1 : Int).toNat 0 : List Int)).bind fun y479=>((some (([(Int.tmod a0 4294967296) % 4294967296,(IntKind.u64.wrap (Int.tdiv a0 4294967296)) % 4294967296] : List Int) : List Int)).bind fun y482=>(if y479.length+y482.length < 35184372088832 then (some (y479++y482)) else (none)))) else (none)) else (none)
def penumbraref01_Sub.l0 : Nat→List Int→List Int→List Int→Int→Int→Option (List Int × Bool)
|0,_,_,_,_,_=>none
|k+1,x0,x1,x6,x7,x8=>if x8 < (x0.length : Int) then ((penumbraref01_limb.f x0 x8).bind fun t492=>((penumbraref01_limb.f x1 x8).bind fun t493=>(if x6.length < 35184372088832 then (penumbraref01_Sub.l0 k x0 x1 (x6++[(Int.tmod (IntKind.u64.wrap ((IntKind.u64.wrap ((IntKind.u64.wrap (4294967296+t492)) - t493)) - x7)) 4294967296) % 4294967296]) (IntKind.u64.wrap (1 - (IntKind.u64.wrap (Int.tdiv (IntKind.u64.wrap ((IntKind.u64.wrap ((IntKind.u64.wrap (4294967296+t492)) - t493)) - x7)) 4294967296)))) (wrap64 (x8+1))) else (none)))) else ((penumbraref01_Norm.f k x6).bind fun t497=>(some (t497,true)))
def penumbraref01_Sub.f (k : Nat) (l0 : List Int) (l1 : List Int) : Option (List Int × Bool):=(penumbraref01_Cmp.f k l0 l1).bind fun t488=>(if t488 < 0 then (some (([] : List Int),false)) else (penumbraref01_Sub.l0 k l0 l1 (([] : List Int)) 0 0))
def penumbraref01_Half.l0 : Nat→List Int→List Int→Int→Option (List Int)
|0,_,_,_=>none
|k+1,x0,x3,x4=>if x4 < (x0.length : Int) then ((penumbraref01_limb.f x0 (wrap64 (x4+1))).bind fun t503=>(if 0≤x4 then (if x3.length < 35184372088832 then (penumbraref01_Half.l0 k x0 (x3++[(IntKind.u64.wrap (Int.tdiv (IntKind.u64.wrap ((IntKind.u64.wrap ((Int.tmod t503 2) * 4294967296))+(IntKind.u64.wrap (rd x0 x4)))) 2)) % 4294967296]) (wrap64 (x4+1))) else (none)) else (none))) else ((penumbraref01_Norm.f k x3).bind fun t508=>(some t508))
def penumbraref01_Half.f (k : Nat) (l0 : List Int) : Option (List Int):=penumbraref01_Half.l0 k l0 (([] : List Int)) 0
mutual
def penumbraref01_DivMod.l0 : Nat→List Int→List Int→Int→Option (List Int × List Int × Bool)
|0,_,_,_=>none
|k+1,x7,x8,x9=>if 0≤(wrap64 ((x7.length : Int) - 1)) then (if (wrap64 ((x7.length : Int) - 1)) < (x7.length : Int) then (if (rd x7 (wrap64 ((x7.length : Int) - 1))) < 2147483648 then ((penumbraref01_Double.f k x7 false).bind fun t519=>((penumbraref01_Double.f k x8 false).bind fun t522=>(penumbraref01_DivMod.l0 k t519 t522 (wrap64 (x9+1))))) else (penumbraref01_DivMod.l1 k x7 x8 x9 (([] : List Int)) (x7.length : Int) (IntKind.u64.wrap ((IntKind.u64.wrap (rd x7 (wrap64 ((x7.length : Int) - 1))))+1)))) else (none)) else (none)
def penumbraref01_DivMod.l1 : Nat→List Int→List Int→Int→List Int→Int→Int→Option (List Int × List Int × Bool)
|0,_,_,_,_,_,_=>none
|k+1,x7,x8,x9,x10,x11,x12=>(penumbraref01_Cmp.f k x8 x7).bind fun t529=>(if t529 ≥ 0 then (if 0≤(wrap64 ((x8.length : Int) - 1)) then (if (wrap64 ((x8.length : Int) - 1)) < (x8.length : Int) then (if x12=0 then (none) else (if (IntKind.u64.wrap (Int.tdiv (IntKind.u64.wrap (rd x8 (wrap64 ((x8.length : Int) - 1)))) x12))=0 then (penumbraref01_DivMod.j2 k x7 x8 x9 x10 x11 x12 (x8.length : Int) (wrap64 ((x8.length : Int) - x11)) (IntKind.u64.wrap (Int.tdiv (IntKind.u64.wrap (rd x8 (wrap64 ((x8.length : Int) - 1)))) x12)) (decide ((x8.length : Int) > x11))) else (penumbraref01_DivMod.j2 k x7 x8 x9 x10 x11 x12 (x8.length : Int) (wrap64 ((x8.length : Int) - x11)) (IntKind.u64.wrap (Int.tdiv (IntKind.u64.wrap (rd x8 (wrap64 ((x8.length : Int) - 1)))) x12)) false))) else (none)) else (none)) else (penumbraref01_DivMod.l2 k x8 x9 x10 0))
def penumbraref01_DivMod.j2 : Nat→List Int→List Int→Int→List Int→Int→Int→Int→Int→Int→Bool→Option (List Int × List Int × Bool)
|0,_,_,_,_,_,_,_,_,_,_=>none
|k+1,x7,x8,x9,x10,x11,x12,x13,x14,x15,x70=>if x70=true then (if 0≤(wrap64 (x13 - 1)) then (if (wrap64 (x13 - 1)) < (x8.length : Int) then (if 0≤(wrap64 (x13 - 2)) then (if (wrap64 (x13 - 2)) < (x8.length : Int) then (if x12=0 then (none) else (penumbraref01_DivMod.j3 k x7 x8 x9 x10 x11 x12 (wrap64 (x14 - 1)) (IntKind.u64.wrap (Int.tdiv (IntKind.u64.wrap ((IntKind.u64.wrap ((IntKind.u64.wrap (rd x8 (wrap64 (x13 - 1)))) * 4294967296))+(IntKind.u64.wrap (rd x8 (wrap64 (x13 - 2)))))) x12)))) else (none)) else (none)) else (none)) else (none)) else (penumbraref01_DivMod.j3 k x7 x8 x9 x10 x11 x12 x14 x15)
def penumbraref01_DivMod.j3 : Nat→List Int→List Int→Int→List Int→Int→Int→Int→Int→Option (List Int × List Int × Bool)
|0,_,_,_,_,_,_,_,_=>none
|k+1,x7,x8,x9,x10,x11,x12,x14,x15=>if x15=0 then (penumbraref01_DivMod.j4 k x7 x8 x9 x10 x11 x12 x14 1) else (penumbraref01_DivMod.j4 k x7 x8 x9 x10 x11 x12 x14 x15)
def penumbraref01_DivMod.j4 : Nat→List Int→List Int→Int→List Int→Int→Int→Int→Int→Option (List Int × List Int × Bool)
|0,_,_,_,_,_,_,_,_=>none
|k+1,x7,x8,x9,x10,x11,x12,x14,x15=>(penumbraref01_at.f x15 x14).bind fun t533=>((penumbraref01_Add.f k x10 t533).bind fun t536=>((penumbraref01_Mul.f k t533 x7).bind fun t539=>((penumbraref01_Sub.f k x8 t539).bind fun bt542=>(penumbraref01_DivMod.l1 k x7 bt542.1 x9 t536 x11 x12))))
def penumbraref01_DivMod.l2 : Nat→List Int→Int→List Int→Int→Option (List Int × List Int × Bool)
|0,_,_,_,_=>none
|k+1,x8,x9,x10,x17=>if x17 < x9 then ((penumbraref01_Half.f k x8).bind fun t546=>(penumbraref01_DivMod.l2 k t546 x9 x10 (wrap64 (x17+1)))) else (some (x10,x8,true))
end
def penumbraref01_DivMod.f (k : Nat) (l0 : List Int) (l1 : List Int) : Option (List Int × List Int × Bool):=(penumbraref01_Zero.f k l1).bind fun t511=>(if t511=true then (some (([] : List Int),([] : List Int),false)) else ((penumbraref01_Norm.f k l1).bind fun t512=>((penumbraref01_Norm.f k l0).bind fun t515=>(penumbraref01_DivMod.l0 k t512 t515 0))))
def penumbraref02_Gcd.l0 : Nat→List Int→List Int→Option (List Int)
|0,_,_=>none
|k+1,x0,x1=>(penumbraref01_Zero.f k x1).bind fun t549=>(if t549=true then ((penumbraref01_Norm.f k x0).bind fun t550=>(some t550)) else ((penumbraref01_DivMod.f k x0 x1).bind fun bt553=>(penumbraref02_Gcd.l0 k x1 bt553.2.1)))
def penumbraref02_Gcd.f (k : Nat) (l0 : List Int) (l1 : List Int) : Option (List Int):=penumbraref02_Gcd.l0 k l0 l1
def penumbraref03_Read.j0 : Nat→Bool→Bool→List Int→List Int→Option (Bool × List Int × List Int)
|0,_,_,_,_=>none
|k+1,x17,x561000,x561001,x561002=>if x17=true then ((penumbraref03_Zero.f).bind fun bt564=>(some (bt564.1,bt564.2.1,bt564.2.2))) else ((penumbraref02_Gcd.f k x561001 x561002).bind fun t571=>((penumbraref01_DivMod.f k x561001 t571).bind fun bt574=>((penumbraref01_DivMod.f k x561002 t571).bind fun bt581=>(some (x561000,bt574.1,bt581.1)))))
def penumbraref03_Read.f (k : Nat) (a0_0 : Bool) (l0_1 : List Int) (l0_2 : List Int) : Option (Bool × List Int × List Int):=(penumbraref01_Zero.f k l0_2).bind fun t562=>(if t562=true then (penumbraref03_Read.j0 k true a0_0 l0_1 l0_2) else ((penumbraref01_Zero.f k l0_1).bind fun t563=>(penumbraref03_Read.j0 k t563 a0_0 l0_1 l0_2)))
def penumbraref01_Of.f (k : Nat) (a0 : Int) : Option (List Int):=(penumbraref01_Norm.f k (([(a0) % 4294967296,(a0 / 4294967296) % 4294967296] : List Int))).bind fun t591=>(some t591)
def penumbraref03_abs.f (k : Nat) (a0 : Int) : Option (List Int):=if a0 < 0 then ((penumbraref01_Of.f k (IntKind.u64.wrap ((IntKind.u64.wrap (wrap64 (-(wrap64 (a0+1)))))+1))).bind fun t594=>(some t594)) else ((penumbraref01_Of.f k (IntKind.u64.wrap (a0))).bind fun t597=>(some t597))
def penumbraref03_Of.f (k : Nat) (a0 : Int) (a1 : Int) : Option (Bool × List Int × List Int):=if a0 < 0 then (if a1 ≥ 0 then ((penumbraref03_abs.f k a0).bind fun t601=>((penumbraref03_abs.f k a1).bind fun t604=>((penumbraref03_Read.f k true t601 t604).bind fun bt607=>(some (bt607.1,bt607.2.1,bt607.2.2))))) else (if a0 ≥ 0 then ((penumbraref03_abs.f k a0).bind fun t614=>((penumbraref03_abs.f k a1).bind fun t617=>((penumbraref03_Read.f k (decide (a1 < 0)) t614 t617).bind fun bt620=>(some (bt620.1,bt620.2.1,bt620.2.2))))) else ((penumbraref03_abs.f k a0).bind fun t627=>((penumbraref03_abs.f k a1).bind fun t630=>((penumbraref03_Read.f k false t627 t630).bind fun bt633=>(some (bt633.1,bt633.2.1,bt633.2.2))))))) else (if a0 ≥ 0 then ((penumbraref03_abs.f k a0).bind fun t640=>((penumbraref03_abs.f k a1).bind fun t643=>((penumbraref03_Read.f k (decide (a1 < 0)) t640 t643).bind fun bt646=>(some (bt646.1,bt646.2.1,bt646.2.2))))) else ((penumbraref03_abs.f k a0).bind fun t653=>((penumbraref03_abs.f k a1).bind fun t656=>((penumbraref03_Read.f k false t653 t656).bind fun bt659=>(some (bt659.1,bt659.2.1,bt659.2.2))))))
def penumbralaw04_fixed.f (k : Nat)  : Option (Bool):=(decimal_Parse.f k (⟨#[48,46,49,50,53]⟩ : ByteArray)).bind fun bt666=>((decimal_Parse.f k (⟨#[48,48,55,47,48,49,52]⟩ : ByteArray)).bind fun bt675=>((decimal_Parse.f k (⟨#[49,47,48]⟩ : ByteArray)).bind fun bt684=>((decimal_Parse.f k (⟨#[49,46]⟩ : ByteArray)).bind fun bt693=>(if bt666.2.2.2=0 then ((penumbraref03_Of.f k 1 8).bind fun bt702=>((penumbraref03_Is.f k bt666.1 bt666.2.1 bt666.2.2.1 bt702.1 bt702.2.1 bt702.2.2).bind fun t709=>(if t709=true then (if bt675.2.2.2=0 then ((penumbraref03_Of.f k 1 2).bind fun bt710=>((penumbraref03_Is.f k bt675.1 bt675.2.1 bt675.2.2.1 bt710.1 bt710.2.1 bt710.2.2).bind fun t717=>(if t717=true then (if bt684.2.2.2=42 then (if bt693.2.2.2=40 then ((rat_Of.f k (-3) 6).bind fun bt718=>((decimal_Print.f k bt718.1 bt718.2.1 bt718.2.2).bind fun t725=>(if t725.toList=([45,49,47,50] : List UInt8) then ((decimal_Natural.f k (([0,1] : List Int))).bind fun t729=>(some (t729.toList == ([52,50,57,52,57,54,55,50,57,54] : List UInt8)))) else (none)))) else (none)) else (none)) else (none)))) else (none)) else (none)))) else (none)))))
def nat_Bits.f (l0 : List Int) : Option (Int):=(nat_trim.f l0).bind fun t890=>(if (t890.length : Int)=0 then (some 0) else (if 0≤(wrap64 ((t890.length : Int) - 1)) then (if (wrap64 ((t890.length : Int) - 1)) < (t890.length : Int) then ((bits_LeadingZeros32.f (rd t890 (wrap64 ((t890.length : Int) - 1)))).bind fun t893=>(some (wrap64 ((wrap64 (32 * (t890.length : Int))) - t893)))) else (none)) else (none)))
def penumbralaw04_digits.l0 : Nat→List Int→ByteArray→Int→Option (ByteArray)
|0,_,_,_=>none
|k+1,x0,x3,x4=>if x4 < (x0.length : Int) then (if x4 < 60 then (if 0≤x4 then (if 0≤(Int.tmod (rd x0 x4) 10) then (if (Int.tmod (rd x0 x4) 10)≤(((Int.tmod (rd x0 x4) 10)+1) % 256) then (if (((Int.tmod (rd x0 x4) 10)+1) % 256)≤10 then (if x3.size+((⟨#[48,49,50,51,52,53,54,55,56,57]⟩ : ByteArray).extract ((Int.tmod (rd x0 x4) 10) : Int).toNat ((((Int.tmod (rd x0 x4) 10)+1) % 256) : Int).toNat).size≤9223372036854775807 then (penumbralaw04_digits.l0 k x0 (x3++((⟨#[48,49,50,51,52,53,54,55,56,57]⟩ : ByteArray).extract ((Int.tmod (rd x0 x4) 10) : Int).toNat ((((Int.tmod (rd x0 x4) 10)+1) % 256) : Int).toNat)) (wrap64 (x4+1))) else (none)) else (none)) else (none)) else (none)) else (none)) else (some x3)) else (some x3)
def penumbralaw04_digits.f (k : Nat) (l0 : List Int) : Option (ByteArray):=penumbralaw04_digits.l0 k l0 (⟨#[]⟩ : ByteArray) 0
def rat_Neg.f (k : Nat) (a0_0 : Bool) (l0_1 : List Int) (l0_2 : List Int) : Option (Bool × List Int × List Int):=(rat_made.f k (!a0_0) l0_1 l0_2).bind fun bt938=>(some (bt938.1,bt938.2.1,bt938.2.2))
def rat_whole.f (a0_0 : Bool) (l0_1 : List Int) (l0_2 : List Int) : Option (Bool × List Int × List Int):=(nat_Bits.f l0_2).bind fun t=>(if t=0 then ((rat_one.f).bind fun o=>(some (false,([] : List Int),o))) else (some (a0_0,l0_1,l0_2)))
def nat_Sub.l0 : Nat→List Int→List Int→Int→List Int→Int→Int→Option (List Int × Bool)
|0,_,_,_,_,_,_=>none
|k+1,x1,x6,x7,x23,x24,x25=>if x25 < x24 then (if 0≤x25 then (if x25 < (x23.length : Int) then (if x25 < (x1.length : Int) then ((bits_Sub32.f (rd x23 x25) (rd x1 x25) x7).bind fun bt955=>(if x6.length < 35184372088832 then (nat_Sub.l0 k x1 (x6++[bt955.1]) bt955.2 x23 x24 (wrap64 (x25+1))) else (none))) else ((bits_Sub32.f (rd x23 x25) 0 x7).bind fun bt960=>(if x6.length < 35184372088832 then (nat_Sub.l0 k x1 (x6++[bt960.1]) bt960.2 x23 x24 (wrap64 (x25+1))) else (none)))) else (none)) else (none)) else ((nat_trim.f x6).bind fun t965=>(some (t965,true)))
def nat_Sub.f (k : Nat) (l0 : List Int) (l1 : List Int) : Option (List Int × Bool):=(nat_Cmp.f k l0 l1).bind fun t945=>(if t945 < 0 then (some (([] : List Int),false)) else ((nat_trim.f l0).bind fun t946=>((nat_trim.f l1).bind fun t948=>(if 0≤(t946.length : Int) then (if ((t946.length : Int) : Int).toNat≤70368744177664 then (nat_Sub.l0 k t948 (([] : List Int)) 0 t946 (t946.length : Int) 0) else (none)) else (none)))))
def rat_plus.f (k : Nat) (n0 : Bool) (a0 b0 : List Int) (n1 : Bool) (a1 b1 : List Int) : Option (Bool × List Int × List Int) :=
 (rat_whole.f n0 a0 b0).bind fun p=>(rat_whole.f n1 a1 b1).bind fun q=>(nat_Mul.f k p.2.1 q.2.2).bind fun x=>(nat_Mul.f k q.2.1 p.2.2).bind fun y=>(nat_Mul.f k p.2.2 q.2.2).bind fun d =>
 if (p.1 == q.1)=true then (nat_Add.f k x y).bind fun s=>rat_made.f k p.1 s d
 else (nat_Sub.f k x y).bind fun s=>if s.2=true then rat_made.f k p.1 s.1 d else (nat_Sub.f k y x).bind fun s=>rat_made.f k q.1 s.1 d
def rat_Sum.n (k : Nat) : List S25→Bool × List Int × List Int→Option (Bool × List Int × List Int)
|[],o=>some o
|x :: r,o=>(rat_plus.f k o.1 o.2.1 o.2.2 x.f0 x.f1 x.f2).bind (rat_Sum.n k r)
def rat_Sum.f (k : Nat) (l0 : List S25) : Option (Bool × List Int × List Int) :=
 match l0 with
|[]=>some (false,[],[1])
|x :: r=>(rat_Read.f k x.f0 x.f1 x.f2).bind (rat_Sum.n k r)
def rat_Sum.at (k : Nat) (l : List S25) (i : Nat) (o : Bool × List Int × List Int) : Option (Bool × List Int × List Int):=if i=0 then rat_Sum.f k l else rat_Sum.n k (l.drop i) o
end Go.Proofs.YtncdiodnbkhacaaDoor.Pq
end
section
namespace Go.Proofs.YtncdiodnbkhacaaDoor.Pq
open Go.RowKit Go.Proofs.YtncdiodnbkhacaaDoorW.PrintWords Go.Proofs.YtncdiodnbkhacaaDoorW.PrintLast Go.Proofs.YtncdiodnbkhacaaDoorW.PrintMore
attribute [local go_sem] max2_int min2_int max_two min_two max_three min_three max_four min_four   -- for this text's walks alone
set_option linter.unusedVariables false
set_option linter.unusedSimpArgs false
set_option maxHeartbeats 8000000 in
set_option maxRecDepth 100000 in
theorem penumbralaw04_digits.calls (k : Nat) (A0 : Option Addr) (c0 : Nat) (l0 : List Int) (r : ByteArray) (w : World) (hr0 : Kd.C (Kd.int .u8) w A0 l0.length l0) (hc0 : l0.length≤c0) (h : penumbralaw04_digits.f k l0=some r) :
  Calls Tryd.prog 20 #[.slice A0 l0.length c0] w fun e w'=>e=.returned (.string r)∧Drawn0 w w':=by
 have HR0:=Aside0.mk hr0
 have HC0:=Aside0.mk hc0
 clear hr0 hc0
 have H : (penumbralaw04_digits.l0 k l0 (⟨#[]⟩ : ByteArray) 0)=some r:=h
 clear h
 have H':=Aside0.mk H
 clear H
 go_enter Tryd.func20,Tryd.ntmps20
 go_wp2
 go_loopg [3,4] k (fun kq v3 v4 w'=>∃ (x3_1 : ByteArray) (x4_1 : Int),v3=.string x3_1∧v4=.int .i64 x4_1∧Aside0 (penumbralaw04_digits.l0 kq l0 x3_1 x4_1=some r)∧Aside0 (kq≤k)∧Drawn0 w w')
 case atStart=>exact ⟨((⟨#[]⟩ : ByteArray)),(0),(by first|rfl|(simp;done)|(simp [*];done)),(by first|rfl|(simp;done)|(simp [*];done)),H',⟨Nat.le_refl _⟩,by repeat (first|exact Drawn0.refl _|apply Drawn0.step)⟩
 case round =>
  clear H'
  obtain ⟨x3_1,x4_1,rfl,rfl,HA,HK1,⟨m1,rfl⟩⟩:=hrel
  cases gk with
 |zero=>exact absurd HA.out (by simp [penumbralaw04_digits.l0])
 |succ k1 =>
   have H:=HA.out
   clear HA
   simp only [penumbralaw04_digits.l0] at H
   by_cases c2 : x4_1 < (l0.length : Int)
   ·rw [if_pos c2] at H
    have c2b0 : decide (x4_1 < (l0.length : Int))=true:=decide_eq_true c2
    clear c2
    by_cases c3 : x4_1 < 60
    ·rw [if_pos c3] at H
     have c3b0 : decide (x4_1 < 60)=true:=decide_eq_true c3
     clear c3
     by_cases c4 : 0≤x4_1
     ·rw [if_pos c4] at H
      have c4b0 : decide (0≤x4_1)=true:=decide_eq_true c4
      clear c4
      obtain ⟨ji5,hji5⟩ : ∃ j_ : Int,(Int.tmod (rd l0 x4_1) 10)=j_:=⟨_,rfl⟩
      replace H : (if 0≤(ji5) then (if (ji5)≤(((ji5)+1) % 256) then (if (((ji5)+1) % 256)≤10 then (if x3_1.size+((⟨#[48,49,50,51,52,53,54,55,56,57]⟩ : ByteArray).extract ((ji5) : Int).toNat ((((ji5)+1) % 256) : Int).toNat).size≤9223372036854775807 then (penumbralaw04_digits.l0 k1 l0 (x3_1++((⟨#[48,49,50,51,52,53,54,55,56,57]⟩ : ByteArray).extract ((ji5) : Int).toNat ((((ji5)+1) % 256) : Int).toNat)) (wrap64 (x4_1+1))) else (none)) else (none)) else (none)) else (none))=some r:=by first|(rw [hji5] at H;exact H)|(simp only [hji5] at H ⊢;exact H)
      by_cases c6 : 0≤(ji5)
      ·rw [if_pos c6] at H
       have c6b0:=eq_true c6
       have c6b1 : decide (0≤(ji5))=true:=decide_eq_true c6
       clear c6
       by_cases c7 : (ji5)≤(((ji5)+1) % 256)
       ·rw [if_pos c7] at H
        have c7b0:=eq_true c7
        have c7b1 : decide ((ji5)≤(((ji5)+1) % 256))=true:=decide_eq_true c7
        by_cases c8 : (((ji5)+1) % 256)≤10
        ·rw [if_pos c8] at H
         have c8b0:=eq_true c8
         have c8b1 : decide ((((ji5)+1) % 256)≤10)=true:=decide_eq_true c8
         by_cases c9 : x3_1.size+((⟨#[48,49,50,51,52,53,54,55,56,57]⟩ : ByteArray).extract ((ji5) : Int).toNat ((((ji5)+1) % 256) : Int).toNat).size≤9223372036854775807
         ·rw [if_pos c9] at H
          have c9b0:=eq_true c9
          have c9b1 : decide (x3_1.size+((⟨#[48,49,50,51,52,53,54,55,56,57]⟩ : ByteArray).extract ((ji5) : Int).toNat ((((ji5)+1) % 256) : Int).toNat).size≤9223372036854775807)=true:=decide_eq_true c9
          try have c9b2 : (9223372036854775807 < x3_1.size+((⟨#[48,49,50,51,52,53,54,55,56,57]⟩ : ByteArray).extract ((ji5) : Int).toNat ((((ji5)+1) % 256) : Int).toNat).size)=False:=eq_false (Nat.not_lt.2 c9)
          have H':=Aside0.mk H
          clear H
          have p935 : 0≤(x4_1 : Int):=of_decide_eq_true (by first|(with_reducible assumption)|assumption)
          have q935 : x4_1 < (l0.length : Int):=of_decide_eq_true (by first|(with_reducible assumption)|assumption)
          obtain ⟨ad935,e935,hx935_0⟩:=Kd.at_int HR0.out x4_1 p935 q935
          cases e935
          replace p935:=eq_true p935
          replace q935:=eq_true q935
          go_wp2
          go_roundg k1
          case measure=>have:=HK1.out;omega
          case rel=>exact ⟨(x3_1++((⟨#[48,49,50,51,52,53,54,55,56,57]⟩ : ByteArray).extract ((ji5) : Int).toNat ((((ji5)+1) % 256) : Int).toNat)),(wrap64 (x4_1+1)),(by first|rfl|(simp;done)|(simp only [← hji5] <;> (first|rfl|simp))|(simp [*];done)),(by first|rfl|(simp;done)|(simp [*];done)),H',⟨by have:=HK1.out;omega⟩,by repeat (first|exact Drawn0.refl _|apply Drawn0.step)⟩
         ·rw [if_neg c9] at H
          exact absurd H (by simp)
        ·rw [if_neg c8] at H
         exact absurd H (by simp)
       ·rw [if_neg c7] at H
        exact absurd H (by simp)
      ·rw [if_neg c6] at H
       exact absurd H (by simp)
     ·rw [if_neg c4] at H
      exact absurd H (by simp)
    ·rw [if_neg c3] at H
     have c3b0 : decide (x4_1 < 60)=false:=decide_eq_false c3
     clear c3
     obtain rfl:=Option.some.inj H
     go_wp2
     go_ret
     exact ⟨by first|rfl|(simp;done)|(simp [*];done),by repeat (first|exact Drawn0.refl _|apply Drawn0.step)⟩
   ·rw [if_neg c2] at H
    have c2b0 : decide (x4_1 < (l0.length : Int))=false:=decide_eq_false c2
    clear c2
    obtain rfl:=Option.some.inj H
    go_wp2
    go_ret
    exact ⟨by first|rfl|(simp;done)|(simp [*];done),by repeat (first|exact Drawn0.refl _|apply Drawn0.step)⟩
end Go.Proofs.YtncdiodnbkhacaaDoor.Pq
end
section
section
namespace Go.Proofs.YtncdiodnbkhacaaDoor.Pq
open Go.RowKit Go.Proofs.YtncdiodnbkhacaaDoorW.PrintWords Go.Proofs.YtncdiodnbkhacaaDoorW.PrintLast Go.Proofs.YtncdiodnbkhacaaDoorW.PrintMore
attribute [local go_sem] max2_int min2_int max_two min_two max_three min_three max_four min_four
set_option linter.unusedVariables false
set_option linter.unusedSimpArgs false
set_option maxHeartbeats 8000000
set_option maxRecDepth 100000
theorem nat_trim.n_le (l : List Int) : ∀ m,nat_trim.n l m≤m
|0=>Nat.le_refl _
|m+1=>by
  unfold nat_trim.n
  split
  ·exact Nat.le_succ_of_le (nat_trim.n_le l m)
  ·exact Nat.le_refl _
theorem nat_trim.len {l r : List Int} (h : nat_trim.f l=some r) : r.length=nat_trim.n l l.length:=by
 have h:=Option.some.inj h
 rw [← h,List.length_take]
 exact Nat.min_eq_left (nat_trim.n_le l _)
theorem nat_trim.take {l r : List Int} (h : nat_trim.f l=some r) : r=l.take r.length:=by
 rw [nat_trim.len h]
 exact (Option.some.inj h).symm
theorem nat_trim.le {l r : List Int} (h : nat_trim.f l=some r) : r.length≤l.length:=by
 rw [nat_trim.len h]
 exact nat_trim.n_le l _
theorem nat_trim.C {w : World} {A : Option Addr} {l r : List Int} (hr : Kd.C (Kd.int .u32) w A l.length l) (h : nat_trim.f l=some r) : Kd.C (Kd.int .u32) w A r.length r:=by
 have h2:=Kd.C_take (m:=r.length) hr (nat_trim.le h)
 rwa [← nat_trim.take h] at h2
theorem nat_trim.R {e : Nat} {w : World} {base : Nat} {ok : Nat→Prop} {A : Option Addr} {n c : Nat} {l r : List Int} (ho : Kd.R (Kd.int .u32) e w base ok (.slice A n c) l) (h : nat_trim.f l=some r) : Kd.R (Kd.int .u32) e w base ok (.slice A r.length r.length) r:=by
 have h2:=Kd.R_takeC (m:=r.length) (c':=r.length) ho (nat_trim.le h) (Nat.le_refl _) (Nat.le_trans (nat_trim.le h) (Nat.le_trans (Nat.le_of_eq (Kd.R_reads' ho).1.symm) (Kd.R_reads' ho).2.1))
 rwa [← nat_trim.take h] at h2
theorem trim_run_cut {P : Program} (t e : TypeId) (kh km : IntKind) {i : TypeInfo} (ht : P.underlying t=some (.slice e)) (hi : P.info? e=some i) (A : Option Addr) (n c : Nat) (j : Int) (h0 : 0≤j) (hm : j≤c) :
  ∀ W : World,(Instr.slice t (.slice A n c) none (some (.int kh j)) (some (.int km j))).run P W=.ok (.slice A j.toNat j.toNat) W:=by
 intro W
 have hel : P.elem t=e:=by simp [Program.elem,ht]
 have hu : P.underlying t=some (.slice (P.elem t)):=by rw [hel];exact ht
 have ha : (A.map fun x=>x.add 0)=A:=by cases A <;> simp [Addr.add]
 have e1 : IntKind.i64.wrap 0=0:=by rfl
 rw [run_slice_hm W t A n c hu kh km j j h0 (by omega) hm,hel]
 simp [sizeOf,typeInfo,hi,sliced,Result.andThen,ha]
theorem nat_trim.calls (A0 : Option Addr) (c0 : Nat) (l0 : List Int) (r : List Int) (w : World) (hr0 : Kd.C (Kd.int .u32) w A0 l0.length l0) (hc0 : l0.length≤c0) (h : nat_trim.f l0=some r) :
  Calls Tryd.prog 43 #[.slice A0 l0.length c0] w fun e w'=>e=.returned (.slice A0 r.length r.length)∧Drawn0 w w':=by
 have hlen:=nat_trim.len h
 rw [hlen]
 clear hlen h
 have hmax : l0.length≤9223372036854775807:=Kd.C_max hr0
 have HR0:=Aside0.mk hr0
 have HC0:=Aside0.mk hc0
 have HM:=Aside0.mk hmax
 clear hr0 hc0 hmax
 go_enter Tryd.func43,Tryd.ntmps43
 go_wp2
 go_loop [3] (fun v3=>∃ m : Nat,m≤l0.length∧v3=.int .i64 m∧Aside0 (nat_trim.n l0 m=nat_trim.n l0 l0.length)) (fun v3=>(intOf v3).toNat)
 case atStart=>exact ⟨l0.length,Nat.le_refl _,rfl,⟨rfl⟩⟩
 case round =>
  obtain ⟨m,hm,rfl,HN⟩:=hrel
  have hmx:=HM.out
  obtain ⟨i0,hi0,_,hsz,_⟩:=info_parts info35
  have hcut:=trim_run_cut (P:=Tryd.prog) 23 35 .i64 .i64 Tryd.underlying23 hi0 A0 l0.length c0 (m : Int) (by omega) (by have:=HC0.out;omega)
  rw [Int.toNat_natCast] at hcut
  clear hi0 hsz
  cases m with
 |zero =>
   have HE:=Aside0.mk (show nat_trim.n l0 l0.length=0 from HN.out.symm)
   clear HN hmx
   go_wp2
   go_ret
   exact ⟨by rw [HE.out];rfl,by repeat (first|exact Drawn0.refl _|apply Drawn0.step)⟩
 |succ m =>
   have hlt : m < l0.length:=by omega
   rw [show ((m+1 : Nat) : Int)=(m : Int)+1 by omega] at hcut
   have hpos : decide (0 < ((m : Int)+1))=true:=decide_eq_true (by omega)
   obtain ⟨ad,he,hcell⟩:=Kd.at_int HR0.out (m : Int) (by omega) (by omega)
   cases he
   obtain ⟨x,hx⟩ : ∃ x : Int,l0.getD m 0=x:=⟨_,rfl⟩
   have hrd : rd l0 (m : Int)=x:=hx
   rw [hrd,Int.toNat_natCast] at hcell
   have HX:=Aside0.mk hx
   clear hrd hx
   by_cases hz : x=0
   ·rw [hz] at hcell
    have HE : nat_trim.n l0 (m+1)=nat_trim.n l0 m:=by
     show (if l0.getD m 0=0 then nat_trim.n l0 m else m+1)=_
     rw [if_pos (HX.out.trans hz)]
    have HN2:=Aside0.mk (HE.symm.trans HN.out)
    clear HE HN hz hcut HX
    go_wp2
    go_round
    case rel=>exact ⟨m,by omega,by go_num,HN2⟩
    case measure=>simp [intOf] <;> omega
   ·have HE : nat_trim.n l0 (m+1)=m+1:=by
     show (if l0.getD m 0=0 then nat_trim.n l0 m else m+1)=_
     rw [if_neg (fun h=>hz (HX.out.symm.trans h))]
    have HE2:=Aside0.mk (show nat_trim.n l0 l0.length=m+1 from HN.out.symm.trans HE)
    clear HE HN HX
    have hz2 : (x == 0)=false:=beq_eq_false_iff_ne.mpr hz
    clear hz
    go_wp2
    go_ret
    exact ⟨by rw [HE2.out];rfl,by repeat (first|exact Drawn0.refl _|apply Drawn0.step)⟩
end Go.Proofs.YtncdiodnbkhacaaDoor.Pq
end
end
section
section
namespace Go.Proofs.YtncdiodnbkhacaaDoor.Pq
open Go.RowKit Go.Proofs.YtncdiodnbkhacaaDoorW.PrintWords Go.Proofs.YtncdiodnbkhacaaDoorW.PrintLast Go.Proofs.YtncdiodnbkhacaaDoorW.PrintMore
attribute [local go_sem] max2_int min2_int max_two min_two max_three min_three max_four min_four
set_option linter.unusedVariables false
set_option linter.unusedSimpArgs false
set_option maxHeartbeats 8000000
set_option maxRecDepth 100000
theorem nat_Cmp.mono_l : ∀ k,(∀ y0 y1 y2,LeO (nat_Cmp.l0 k y0 y1 y2) (nat_Cmp.l0 (k+1) y0 y1 y2))
|0=>fun _ _ _ r h=>by simp [nat_Cmp.l0] at h
|k+1=>by
  have ih0:=nat_Cmp.mono_l k
  ·intro y0 y1 y2
   unfold nat_Cmp.l0
   with_reducible repeat' first
  |exact ih0 _ _ _
  |exact LeO.refl _
  |exact LeO.none _
  |refine LeO.ite ?_ ?_
  |refine LeO.bind ?_ (fun _=>?_)
theorem nat_Cmp.mono : ∀ a0 a1 k,LeO (nat_Cmp.f k a0 a1) (nat_Cmp.f (k+1) a0 a1):=by
 intro a0 a1 k
 have ih0:=nat_Cmp.mono_l k
 unfold nat_Cmp.f
 with_reducible repeat' first
  |exact ih0 _ _ _
  |exact LeO.refl _
  |exact LeO.none _
  |refine LeO.ite ?_ ?_
  |refine LeO.bind ?_ (fun _=>?_)
theorem nat_Cmp.calls (k : Nat) (A0 : Option Addr) (c0 : Nat) (l0 : List Int) (A1 : Option Addr) (c1 : Nat) (l1 : List Int) (r : Int) (w : World) (hr0 : Kd.C (Kd.int .u32) w A0 l0.length l0) (hc0 : l0.length≤c0) (hr1 : Kd.C (Kd.int .u32) w A1 l1.length l1) (hc1 : l1.length≤c1) (h : nat_Cmp.f k l0 l1=some r) :
  Calls Tryd.prog 61 #[.slice A0 l0.length c0,.slice A1 l1.length c1] w fun e w'=>e=.returned (.int .i64 r)∧Drawn0 w w':=by
 have HR0:=Aside0.mk hr0
 have HC0:=Aside0.mk hc0
 clear hr0 hc0
 have HR1:=Aside0.mk hr1
 have HC1:=Aside0.mk hc1
 clear hr1 hc1
 have H : ((nat_trim.f l0).bind fun t106=>((nat_trim.f l1).bind fun t108=>(if (t106.length : Int)=(t108.length : Int) then (nat_Cmp.l0 k t106 t108 (wrap64 ((t106.length : Int) - 1))) else (if (t106.length : Int) < (t108.length : Int) then (some (-1)) else (some 1)))))=some r:=h
 clear h
 replace H:=Option.bind_eq_some_iff.mp H
 obtain ⟨t106,A30,H⟩:=H
 try dsimp only at H
 have A3:=Aside0.mk A30
 clear A30
 replace H:=Option.bind_eq_some_iff.mp H
 obtain ⟨t108,A40,H⟩:=H
 try dsimp only at H
 have A4:=Aside0.mk A40
 clear A40
 by_cases c5 : (t106.length : Int)=(t108.length : Int)
 ·rw [if_pos c5] at H
  have c5b0 : ((t106.length : Int) == (t108.length : Int))=true:=beq_iff_eq.mpr c5
  have c5b1 : ((t106.length : Int) != (t108.length : Int))=false:=bne_eq_false_iff_eq.mpr c5
  have c5b2 : (t106.length == t108.length)=true:=by first|simpa using c5|(simp at c5 ⊢;omega)
  clear c5
  have H':=Aside0.mk H
  clear H
  go_enter Tryd.func61,Tryd.ntmps61
  go_wp2_with (first|(go_at_call 43;(with_reducible refine (nat_trim.calls _ _ l0 t106 _ ?side1 ?side2 A3.out).mono ?_);(case side1=>exact Cu HR0.out);(case side2=>exact HC0.out);rintro e w' ⟨rfl,⟨nd,rfl⟩⟩;(try first|exact ⟨rfl,_,World.drewN_drewN _ _ _⟩|exact ⟨rfl,_,Eq.trans (World.drewN_drewN _ _ _) (congrArg (World.drewN _) (Nat.add_assoc _ _ _))⟩);have HR107:=Aside0.mk (nat_trim.C HR0.out A3.out);have HC107:=Aside0.mk (Nat.le_refl t106.length))|(go_at_call 43;(with_reducible refine (nat_trim.calls _ _ l1 t108 _ ?side1 ?side2 A4.out).mono ?_);(case side1=>exact Cu HR1.out);(case side2=>exact HC1.out);rintro e w' ⟨rfl,⟨nd,rfl⟩⟩;(try first|exact ⟨rfl,_,World.drewN_drewN _ _ _⟩|exact ⟨rfl,_,Eq.trans (World.drewN_drewN _ _ _) (congrArg (World.drewN _) (Nat.add_assoc _ _ _))⟩);have HR109:=Aside0.mk (nat_trim.C HR1.out A4.out);have HC109:=Aside0.mk (Nat.le_refl t108.length)))
  go_loopg [5] k (fun kq v5 w'=>∃ (x5_1 : Int),v5=.int .i64 x5_1∧Aside0 (nat_Cmp.l0 kq t106 t108 x5_1=some r)∧Aside0 (kq≤k)∧Drawn0 w w')
  case atStart=>exact ⟨(wrap64 ((t106.length : Int) - 1)),(by first|rfl|(simp;done)|(simp [*];done)),H',⟨Nat.le_refl _⟩,by repeat (first|exact Drawn0.refl _|apply Drawn0.step)⟩
  case round =>
   clear H'
   obtain ⟨x5_1,rfl,HA,HK1,⟨m1,rfl⟩⟩:=hrel
   cases gk with
  |zero=>exact absurd HA.out (by simp [nat_Cmp.l0])
  |succ k1 =>
    have H:=HA.out
    clear HA
    simp only [nat_Cmp.l0] at H
    by_cases c6 : x5_1 ≥ 0
    ·rw [if_pos c6] at H
     have c6b0 : decide (0≤x5_1)=true:=decide_eq_true c6
     clear c6
     by_cases c7 : 0≤x5_1
     case neg =>rw [if_neg c7] at H;exact absurd H (by simp)
     rw [if_pos c7] at H
     have c7b0 : decide (0≤x5_1)=true:=decide_eq_true c7
     clear c7
     by_cases c8 : x5_1 < (t106.length : Int)
     case neg =>rw [if_neg c8] at H;exact absurd H (by simp)
     rw [if_pos c8] at H
     have c8b0 : decide (x5_1 < (t106.length : Int))=true:=decide_eq_true c8
     clear c8
     by_cases c9 : x5_1 < (t108.length : Int)
     case neg =>rw [if_neg c9] at H;exact absurd H (by simp)
     rw [if_pos c9] at H
     have c9b0 : decide (x5_1 < (t108.length : Int))=true:=decide_eq_true c9
     clear c9
     by_cases c10 : (rd t106 x5_1) < (rd t108 x5_1)
     ·rw [if_pos c10] at H
      have c10b0 : decide ((rd t106 x5_1) < (rd t108 x5_1))=true:=decide_eq_true c10
      clear c10
      obtain rfl:=Option.some.inj H
      have p110 : 0≤(x5_1 : Int):=of_decide_eq_true (by assumption)
      have q110 : x5_1 < (t106.length : Int):=of_decide_eq_true (by assumption)
      obtain ⟨ad110,e110,hx110_0⟩:=Kd.at_int HR107.out x5_1 p110 q110
      cases e110
      replace p110:=eq_true p110
      replace q110:=eq_true q110
      have p111 : 0≤(x5_1 : Int):=of_decide_eq_true (by assumption)
      have q111 : x5_1 < (t108.length : Int):=of_decide_eq_true (by assumption)
      obtain ⟨ad111,e111,hx111_0⟩:=Kd.at_int HR109.out x5_1 p111 q111
      cases e111
      replace p111:=eq_true p111
      replace q111:=eq_true q111
      go_wp2
      repeat (go_quiet (fail);try go_wp2)
      go_ret
      exact ⟨by first|rfl|(simp;done)|(simp [*];done),by repeat (first|exact Drawn0.refl _|apply Drawn0.step)⟩
     ·rw [if_neg c10] at H
      have c10b0 : decide ((rd t106 x5_1) < (rd t108 x5_1))=false:=decide_eq_false c10
      clear c10
      by_cases c11 : (rd t106 x5_1) > (rd t108 x5_1)
      ·rw [if_pos c11] at H
       have c11b0 : decide ((rd t108 x5_1) < (rd t106 x5_1))=true:=decide_eq_true c11
       clear c11
       obtain rfl:=Option.some.inj H
       have p110 : 0≤(x5_1 : Int):=of_decide_eq_true (by assumption)
       have q110 : x5_1 < (t106.length : Int):=of_decide_eq_true (by assumption)
       obtain ⟨ad110,e110,hx110_0⟩:=Kd.at_int HR107.out x5_1 p110 q110
       cases e110
       replace p110:=eq_true p110
       replace q110:=eq_true q110
       have p111 : 0≤(x5_1 : Int):=of_decide_eq_true (by assumption)
       have q111 : x5_1 < (t108.length : Int):=of_decide_eq_true (by assumption)
       obtain ⟨ad111,e111,hx111_0⟩:=Kd.at_int HR109.out x5_1 p111 q111
       cases e111
       replace p111:=eq_true p111
       replace q111:=eq_true q111
       have p112 : 0≤(x5_1 : Int):=of_decide_eq_true (by assumption)
       have q112 : x5_1 < (t106.length : Int):=of_decide_eq_true (by assumption)
       obtain ⟨ad112,e112,hx112_0⟩:=Kd.at_int HR107.out x5_1 p112 q112
       obtain rfl : ad110=ad112:=(by injection e112)
       replace p112:=eq_true p112
       replace q112:=eq_true q112
       have p113 : 0≤(x5_1 : Int):=of_decide_eq_true (by assumption)
       have q113 : x5_1 < (t108.length : Int):=of_decide_eq_true (by assumption)
       obtain ⟨ad113,e113,hx113_0⟩:=Kd.at_int HR109.out x5_1 p113 q113
       obtain rfl : ad111=ad113:=(by injection e113)
       replace p113:=eq_true p113
       replace q113:=eq_true q113
       go_wp2
       repeat (go_quiet (fail);try go_wp2)
       go_ret
       exact ⟨by first|rfl|(simp;done)|(simp [*];done),by repeat (first|exact Drawn0.refl _|apply Drawn0.step)⟩
      ·rw [if_neg c11] at H
       have c11b0 : decide ((rd t108 x5_1) < (rd t106 x5_1))=false:=decide_eq_false c11
       clear c11
       have H':=Aside0.mk H
       clear H
       have p110 : 0≤(x5_1 : Int):=of_decide_eq_true (by assumption)
       have q110 : x5_1 < (t106.length : Int):=of_decide_eq_true (by assumption)
       obtain ⟨ad110,e110,hx110_0⟩:=Kd.at_int HR107.out x5_1 p110 q110
       cases e110
       replace p110:=eq_true p110
       replace q110:=eq_true q110
       have p111 : 0≤(x5_1 : Int):=of_decide_eq_true (by assumption)
       have q111 : x5_1 < (t108.length : Int):=of_decide_eq_true (by assumption)
       obtain ⟨ad111,e111,hx111_0⟩:=Kd.at_int HR109.out x5_1 p111 q111
       cases e111
       replace p111:=eq_true p111
       replace q111:=eq_true q111
       have p112 : 0≤(x5_1 : Int):=of_decide_eq_true (by assumption)
       have q112 : x5_1 < (t106.length : Int):=of_decide_eq_true (by assumption)
       obtain ⟨ad112,e112,hx112_0⟩:=Kd.at_int HR107.out x5_1 p112 q112
       obtain rfl : ad110=ad112:=(by injection e112)
       replace p112:=eq_true p112
       replace q112:=eq_true q112
       have p113 : 0≤(x5_1 : Int):=of_decide_eq_true (by assumption)
       have q113 : x5_1 < (t108.length : Int):=of_decide_eq_true (by assumption)
       obtain ⟨ad113,e113,hx113_0⟩:=Kd.at_int HR109.out x5_1 p113 q113
       obtain rfl : ad111=ad113:=(by injection e113)
       replace p113:=eq_true p113
       replace q113:=eq_true q113
       go_wp2
       repeat (go_quiet (fail);try go_wp2)
       go_roundg k1
       case measure=>have:=HK1.out;omega
       case rel=>exact ⟨(wrap64 (x5_1 - 1)),(by first|rfl|(simp;done)|(simp [*];done)),H',⟨by have:=HK1.out;omega⟩,by repeat (first|exact Drawn0.refl _|apply Drawn0.step)⟩
    ·rw [if_neg c6] at H
     have c6b0 : decide (0≤x5_1)=false:=decide_eq_false c6
     clear c6
     obtain rfl:=Option.some.inj H
     go_wp2
     go_ret
     exact ⟨by first|rfl|(simp;done)|(simp [*];done),by repeat (first|exact Drawn0.refl _|apply Drawn0.step)⟩
 ·rw [if_neg c5] at H
  have c5b0 : ((t106.length : Int) == (t108.length : Int))=false:=beq_eq_false_iff_ne.mpr c5
  have c5b1 : ((t106.length : Int) != (t108.length : Int))=true:=bne_iff_ne.mpr c5
  have c5b2 : (t106.length == t108.length)=false:=by first|simpa using c5|(simp at c5 ⊢;omega)
  by_cases c12 : (t106.length : Int) < (t108.length : Int)
  ·rw [if_pos c12] at H
   have c12b0 : decide ((t106.length : Int) < (t108.length : Int))=true:=decide_eq_true c12
   have c12b1 : decide (t106.length < t108.length)=true:=decide_eq_true (Int.ofNat_lt.mp c12)
   clear c12
   obtain rfl:=Option.some.inj H
   go_enter Tryd.func61,Tryd.ntmps61
   go_wp2_with (first|(go_at_call 43;(with_reducible refine (nat_trim.calls _ _ l0 t106 _ ?side1 ?side2 A3.out).mono ?_);(case side1=>exact Cu HR0.out);(case side2=>exact HC0.out);rintro e w' ⟨rfl,⟨nd,rfl⟩⟩;(try first|exact ⟨rfl,_,World.drewN_drewN _ _ _⟩|exact ⟨rfl,_,Eq.trans (World.drewN_drewN _ _ _) (congrArg (World.drewN _) (Nat.add_assoc _ _ _))⟩);have HR107:=Aside0.mk (nat_trim.C HR0.out A3.out);have HC107:=Aside0.mk (Nat.le_refl t106.length))|(go_at_call 43;(with_reducible refine (nat_trim.calls _ _ l1 t108 _ ?side1 ?side2 A4.out).mono ?_);(case side1=>exact Cu HR1.out);(case side2=>exact HC1.out);rintro e w' ⟨rfl,⟨nd,rfl⟩⟩;(try first|exact ⟨rfl,_,World.drewN_drewN _ _ _⟩|exact ⟨rfl,_,Eq.trans (World.drewN_drewN _ _ _) (congrArg (World.drewN _) (Nat.add_assoc _ _ _))⟩);have HR109:=Aside0.mk (nat_trim.C HR1.out A4.out);have HC109:=Aside0.mk (Nat.le_refl t108.length)))
   go_ret
   exact ⟨by first|rfl|(simp;done)|(simp [*];done),by repeat (first|exact Drawn0.refl _|apply Drawn0.step)⟩
  ·rw [if_neg c12] at H
   have c12b0 : decide ((t106.length : Int) < (t108.length : Int))=false:=decide_eq_false c12
   have c12b1 : decide (t106.length < t108.length)=false:=decide_eq_false (fun h=>c12 (Int.ofNat_lt.mpr h))
   clear c12
   obtain rfl:=Option.some.inj H
   go_enter Tryd.func61,Tryd.ntmps61
   go_wp2_with (first|(go_at_call 43;(with_reducible refine (nat_trim.calls _ _ l0 t106 _ ?side1 ?side2 A3.out).mono ?_);(case side1=>exact Cu HR0.out);(case side2=>exact HC0.out);rintro e w' ⟨rfl,⟨nd,rfl⟩⟩;(try first|exact ⟨rfl,_,World.drewN_drewN _ _ _⟩|exact ⟨rfl,_,Eq.trans (World.drewN_drewN _ _ _) (congrArg (World.drewN _) (Nat.add_assoc _ _ _))⟩);have HR107:=Aside0.mk (nat_trim.C HR0.out A3.out);have HC107:=Aside0.mk (Nat.le_refl t106.length))|(go_at_call 43;(with_reducible refine (nat_trim.calls _ _ l1 t108 _ ?side1 ?side2 A4.out).mono ?_);(case side1=>exact Cu HR1.out);(case side2=>exact HC1.out);rintro e w' ⟨rfl,⟨nd,rfl⟩⟩;(try first|exact ⟨rfl,_,World.drewN_drewN _ _ _⟩|exact ⟨rfl,_,Eq.trans (World.drewN_drewN _ _ _) (congrArg (World.drewN _) (Nat.add_assoc _ _ _))⟩);have HR109:=Aside0.mk (nat_trim.C HR1.out A4.out);have HC109:=Aside0.mk (Nat.le_refl t108.length)))
   go_ret
   exact ⟨by first|rfl|(simp;done)|(simp [*];done),by repeat (first|exact Drawn0.refl _|apply Drawn0.step)⟩
end Go.Proofs.YtncdiodnbkhacaaDoor.Pq
end
end
section
section
namespace Go.Proofs.YtncdiodnbkhacaaDoor.Pq
open Go.RowKit Go.Proofs.YtncdiodnbkhacaaDoorW.PrintWords Go.Proofs.YtncdiodnbkhacaaDoorW.PrintLast Go.Proofs.YtncdiodnbkhacaaDoorW.PrintMore
attribute [local go_sem] max2_int min2_int max_two min_two max_three min_three max_four min_four
set_option linter.unusedVariables false
set_option linter.unusedSimpArgs false
set_option maxHeartbeats 8000000
set_option maxRecDepth 100000
theorem slices_Clone_uint32_uint32.calls (A0 : Option Addr) (c0 : Nat) (l0 : List Int) (r : List Int) (w : World) (hr0 : Kd.C (Kd.int .u32) w A0 l0.length l0) (hc0 : l0.length≤c0) (h : slices_Clone_uint32_uint32.f l0=some r) :
  Calls Tryd.prog 44 #[.slice A0 l0.length c0] w fun e w'=>∃ v0_ : Value,e=.returned (v0_)∧Kd.R (Kd.int .u32) 35 w' w.heap.size (fun _=>True) v0_ r∧Below w.heap.size w w':=by
 unfold slices_Clone_uint32_uint32.f at h
 by_cases c9 : l0.length < 35184372088832
 case neg=>rw [if_neg c9] at h;cases h
 rw [if_pos c9] at h
 obtain rfl:=Option.some.inj h
 clear h
 have LM:=Aside0.mk c9
 clear c9
 have HR0:=Aside0.mk hr0
 have HC0:=Aside0.mk hc0
 clear hc0
 cases A0 with
|none =>
  have hl : l0=[]:=by
   rcases Nat.eq_zero_or_pos l0.length with h0|h0
   ·exact List.eq_nil_of_length_eq_zero h0
   ·obtain ⟨ad,he,_⟩:=(Kd.at_int hr0 0 (by omega) (by omega))
    cases he
  clear hr0
  subst hl
  have hq:=fun (w : World) (n c : Nat)=>Lib.run_eql_slice_nil (P:=Tryd.prog) w 23 35 none n c 0 0 Tryd.underlying23
  go_enter Tryd.func44,Tryd.ntmps44
  go_wp2
  go_ret
  exact ⟨_,rfl,Kd.R_nil _ _ _ _ _,by repeat (first|exact Below.refl _ _|apply ba|apply bn|apply b1)⟩
|some ad0 =>
  clear hr0
  have hq:=fun (w : World) (n c : Nat)=>Lib.run_eql_slice_nil (P:=Tryd.prog) w 23 35 (some ad0) n c 0 0 Tryd.underlying23
  have HB:=Aside0.mk (Below.refl w.heap.size w)
  go_enter Tryd.func44,Tryd.ntmps44
  go_wp2_with (first|((with_reducible refine gate_dst (N:=5) rfl ?_);refine Kd.R_lit (Kd.int .u32) _ 35 ?hg (N:=5) ?hd (xs:=([] : List Int)) (inner:=[]) (ok:=fun _=>True) (okp:=fun _=>True) ?hr ?hp (fun _ hk=>hk) trivial (Below.refl _ _) (Nat.le_refl _) (by simp) ?_;(case hd=>rfl);(case hg=>rfl);(case hr=>first|(go_simp;done)|(go_simp;rfl));(case hp=>exact (Reps.none _ _));intro v126 w10 ho11 hb hg_ hnew_;clear hg_ hnew_;have n0_:=Aside0.mk ho11;have n1_:=Aside0.mk (below_step (by repeat (first|with_reducible exact HB.out|apply ba|apply bn|apply b1)) hb);clear HB;have HO127:=n0_;have HB:=n1_;clear n0_ n1_;clear hb ho11)|((with_reducible refine gate_builtin (b:=.append) (xs:=#[.tmp 5,.tmp 6]) rfl ?_);at_builtin;refine Kd.R_append_rows (Kd.int .u32) (w0:=w) w.heap.size rfl (.tmp 5) (.tmp 6) 23 35 (.int .u32 0) 4 rfl Tryd.underlying23 info35 rfl (by decide) (by omega) v126 ([] : List Int) l0 _ _ _ (fun _=>True) (fun _=>False) rfl rfl ?aO ?aR (fun _ _ h=>h) (fun _ h=>h.elim) ?aF ?aB ?aS ?aL ?_;(case aR=>exact Kd.C_below HR0.out HB.out);(case aB=>exact HB.out);(case aF=>exact (fun _ _=>trivial));(case aO=>exact Kd.R_lower HO127.out (below_size (by exact (Below.refl _ _))));(case aS=>exact (below_size HB.out));(case aL=>have:=LM.out;simp only [List.length_nil];omega);intro v130 w13 ho hb hg hat;have n0_:=Aside0.mk (hb);have n1_:=Aside0.mk (ho);clear HB;clear HO127;have HB:=n0_;have HO131:=n1_;clear n0_ n1_;clear ho hb hg hat))
  go_ret
  exact ⟨_,rfl,by have h_:=HO131.out;simpa using h_,HB.out⟩
end Go.Proofs.YtncdiodnbkhacaaDoor.Pq
end
end
section
section
namespace Go.Proofs.YtncdiodnbkhacaaDoor.Pq
open Go.RowKit Go.Proofs.YtncdiodnbkhacaaDoorW.PrintWords Go.Proofs.YtncdiodnbkhacaaDoorW.PrintLast Go.Proofs.YtncdiodnbkhacaaDoorW.PrintMore
attribute [local go_sem] max2_int min2_int max_two min_two max_three min_three max_four min_four
set_option linter.unusedVariables false
set_option linter.unusedSimpArgs false
set_option maxHeartbeats 8000000
set_option maxRecDepth 100000
theorem nat_Norm.calls (A0 : Option Addr) (c0 : Nat) (l0 : List Int) (r : List Int) (w : World) (hr0 : Kd.C (Kd.int .u32) w A0 l0.length l0) (hc0 : l0.length≤c0) (h : nat_Norm.f l0=some r) :
  Calls Tryd.prog 17 #[.slice A0 l0.length c0] w fun e w'=>∃ v0_ : Value,e=.returned (v0_)∧Kd.R (Kd.int .u32) 35 w' w.heap.size (fun _=>True) v0_ r∧Below w.heap.size w w':=by
 have HR0:=Aside0.mk hr0
 have HC0:=Aside0.mk hc0
 clear hr0 hc0
 have HB:=Aside0.mk (Below.refl w.heap.size w)
 have H : ((nat_trim.f l0).bind fun t101=>((slices_Clone_uint32_uint32.f t101).bind fun t103=>(some t103)))=some r:=h
 clear h
 replace H:=Option.bind_eq_some_iff.mp H
 obtain ⟨t101,A20,H⟩:=H
 try dsimp only at H
 have A2:=Aside0.mk A20
 clear A20
 replace H:=Option.bind_eq_some_iff.mp H
 obtain ⟨t103,A30,H⟩:=H
 try dsimp only at H
 have A3:=Aside0.mk A30
 clear A30
 obtain rfl:=Option.some.inj H
 go_enter Tryd.func17,Tryd.ntmps17
 go_wp2_with (first|((with_reducible refine gate_callee (f:=43) rfl ?_);refine goesL_ (some 4) rfl rfl Tryd.func43 (by kernel_rfl) rfl #[.slice A0 l0.length c0] rfl (by (try simp only [List.map_toArray,List.map_cons,List.map_nil]);first|done|rfl) ?_;(with_reducible refine (nat_trim.calls _ _ l0 t101 _ ?side1 ?side2 A2.out).mono ?_);(case side1=>exact Cu HR0.out);(case side2=>exact HC0.out);rintro e w' ⟨rfl,⟨nd,rfl⟩⟩;refine ⟨_,rfl,?_⟩;have HR102:=Aside0.mk (nat_trim.C HR0.out A2.out);have HC102:=Aside0.mk (Nat.le_refl t101.length))|((with_reducible refine gate_callee (f:=44) rfl ?_);refine goesL_ (some 5) rfl rfl Tryd.func44 (by kernel_rfl) rfl #[.slice A0 t101.length t101.length] rfl (by (try simp only [List.map_toArray,List.map_cons,List.map_nil]);first|done|rfl) ?_;(with_reducible refine (slices_Clone_uint32_uint32.calls _ _ t101 t103 _ ?side1 ?side2 A3.out).mono ?_);(case side1=>exact Cu HR102.out);(case side2=>exact HC102.out);rintro e w4 ⟨v104,rfl,ho0,hb⟩;refine ⟨_,rfl,?_⟩;have n0_:=Aside0.mk (Kd.R_lower ho0 (below_size (Hu HB.out)));have n1_:=Aside0.mk (below_step (Hu HB.out) hb);clear HB;have HO105:=n0_;have HB:=n1_;clear n0_ n1_))
 go_ret
 exact ⟨_,by first|rfl|(simp [errW_none,errW_some] <;> rfl)|(simp [*,errW_none,errW_some] <;> rfl),by (with_reducible repeat (first|apply Ra|apply Rn|apply Rd));exact HO105.out,Hu HB.out⟩
end Go.Proofs.YtncdiodnbkhacaaDoor.Pq
end
end
section
section
namespace Go.Proofs.YtncdiodnbkhacaaDoor.Pq
open Go.RowKit Go.Proofs.YtncdiodnbkhacaaDoorW.PrintWords Go.Proofs.YtncdiodnbkhacaaDoorW.PrintLast Go.Proofs.YtncdiodnbkhacaaDoorW.PrintMore
attribute [local go_sem] max2_int min2_int max_two min_two max_three min_three max_four min_four
set_option linter.unusedVariables false
set_option linter.unusedSimpArgs false
set_option maxHeartbeats 8000000
set_option maxRecDepth 100000
theorem bits_Len32.calls (a0 : Int) (r : Int) (w : World) (h : bits_Len32.f a0=some r) :
  Calls Tryd.prog 98 #[.int .u32 a0] w fun e w'=>e=.returned (.int .i64 r)∧Drawn0 w w':=by
 have H : (if a0 ≥ 65536 then (if (a0 / 65536) ≥ 256 then (if 0≤(((a0 / 65536) / 256) % 256) then (if (((a0 / 65536) / 256) % 256) < 256 then (some (wrap64 ((16+8)+(wrap64 (bt (⟨#[0,1,2,2,3,3,3,3,4,4,4,4,4,4,4,4,5,5,5,5,5,5,5,5,5,5,5,5,5,5,5,5,6,6,6,6,6,6,6,6,6,6,6,6,6,6,6,6,6,6,6,6,6,6,6,6,6,6,6,6,6,6,6,6,7,7,7,7,7,7,7,7,7,7,7,7,7,7,7,7,7,7,7,7,7,7,7,7,7,7,7,7,7,7,7,7,7,7,7,7,7,7,7,7,7,7,7,7,7,7,7,7,7,7,7,7,7,7,7,7,7,7,7,7,7,7,7,7,8,8,8,8,8,8,8,8,8,8,8,8,8,8,8,8,8,8,8,8,8,8,8,8,8,8,8,8,8,8,8,8,8,8,8,8,8,8,8,8,8,8,8,8,8,8,8,8,8,8,8,8,8,8,8,8,8,8,8,8,8,8,8,8,8,8,8,8,8,8,8,8,8,8,8,8,8,8,8,8,8,8,8,8,8,8,8,8,8,8,8,8,8,8,8,8,8,8,8,8,8,8,8,8,8,8,8,8,8,8,8,8,8,8,8,8,8,8,8,8,8,8,8,8,8,8,8,8]⟩ : ByteArray) (((a0 / 65536) / 256) % 256)))))) else (none)) else (none)) else (if 0≤((a0 / 65536) % 256) then (if ((a0 / 65536) % 256) < 256 then (some (wrap64 (16+(wrap64 (bt (⟨#[0,1,2,2,3,3,3,3,4,4,4,4,4,4,4,4,5,5,5,5,5,5,5,5,5,5,5,5,5,5,5,5,6,6,6,6,6,6,6,6,6,6,6,6,6,6,6,6,6,6,6,6,6,6,6,6,6,6,6,6,6,6,6,6,7,7,7,7,7,7,7,7,7,7,7,7,7,7,7,7,7,7,7,7,7,7,7,7,7,7,7,7,7,7,7,7,7,7,7,7,7,7,7,7,7,7,7,7,7,7,7,7,7,7,7,7,7,7,7,7,7,7,7,7,7,7,7,7,8,8,8,8,8,8,8,8,8,8,8,8,8,8,8,8,8,8,8,8,8,8,8,8,8,8,8,8,8,8,8,8,8,8,8,8,8,8,8,8,8,8,8,8,8,8,8,8,8,8,8,8,8,8,8,8,8,8,8,8,8,8,8,8,8,8,8,8,8,8,8,8,8,8,8,8,8,8,8,8,8,8,8,8,8,8,8,8,8,8,8,8,8,8,8,8,8,8,8,8,8,8,8,8,8,8,8,8,8,8,8,8,8,8,8,8,8,8,8,8,8,8,8,8,8,8,8,8]⟩ : ByteArray) ((a0 / 65536) % 256)))))) else (none)) else (none))) else (if a0 ≥ 256 then (if 0≤((a0 / 256) % 256) then (if ((a0 / 256) % 256) < 256 then (some (wrap64 ((0+8)+(wrap64 (bt (⟨#[0,1,2,2,3,3,3,3,4,4,4,4,4,4,4,4,5,5,5,5,5,5,5,5,5,5,5,5,5,5,5,5,6,6,6,6,6,6,6,6,6,6,6,6,6,6,6,6,6,6,6,6,6,6,6,6,6,6,6,6,6,6,6,6,7,7,7,7,7,7,7,7,7,7,7,7,7,7,7,7,7,7,7,7,7,7,7,7,7,7,7,7,7,7,7,7,7,7,7,7,7,7,7,7,7,7,7,7,7,7,7,7,7,7,7,7,7,7,7,7,7,7,7,7,7,7,7,7,8,8,8,8,8,8,8,8,8,8,8,8,8,8,8,8,8,8,8,8,8,8,8,8,8,8,8,8,8,8,8,8,8,8,8,8,8,8,8,8,8,8,8,8,8,8,8,8,8,8,8,8,8,8,8,8,8,8,8,8,8,8,8,8,8,8,8,8,8,8,8,8,8,8,8,8,8,8,8,8,8,8,8,8,8,8,8,8,8,8,8,8,8,8,8,8,8,8,8,8,8,8,8,8,8,8,8,8,8,8,8,8,8,8,8,8,8,8,8,8,8,8,8,8,8,8,8,8]⟩ : ByteArray) ((a0 / 256) % 256)))))) else (none)) else (none)) else (if 0≤((a0) % 256) then (if ((a0) % 256) < 256 then (some (wrap64 (0+(wrap64 (bt (⟨#[0,1,2,2,3,3,3,3,4,4,4,4,4,4,4,4,5,5,5,5,5,5,5,5,5,5,5,5,5,5,5,5,6,6,6,6,6,6,6,6,6,6,6,6,6,6,6,6,6,6,6,6,6,6,6,6,6,6,6,6,6,6,6,6,7,7,7,7,7,7,7,7,7,7,7,7,7,7,7,7,7,7,7,7,7,7,7,7,7,7,7,7,7,7,7,7,7,7,7,7,7,7,7,7,7,7,7,7,7,7,7,7,7,7,7,7,7,7,7,7,7,7,7,7,7,7,7,7,8,8,8,8,8,8,8,8,8,8,8,8,8,8,8,8,8,8,8,8,8,8,8,8,8,8,8,8,8,8,8,8,8,8,8,8,8,8,8,8,8,8,8,8,8,8,8,8,8,8,8,8,8,8,8,8,8,8,8,8,8,8,8,8,8,8,8,8,8,8,8,8,8,8,8,8,8,8,8,8,8,8,8,8,8,8,8,8,8,8,8,8,8,8,8,8,8,8,8,8,8,8,8,8,8,8,8,8,8,8,8,8,8,8,8,8,8,8,8,8,8,8,8,8,8,8,8,8]⟩ : ByteArray) ((a0) % 256)))))) else (none)) else (none))))=some r:=h
 clear h
 by_cases c2 : a0 ≥ 65536
 ·rw [if_pos c2] at H
  have c2b0 : decide (65536≤a0)=true:=decide_eq_true c2
  clear c2
  by_cases c3 : (a0 / 65536) ≥ 256
  ·rw [if_pos c3] at H
   have c3b0 : decide (256≤(a0 / 65536))=true:=decide_eq_true c3
   clear c3
   obtain ⟨ji4,hji4⟩ : ∃ j_ : Int,(((a0 / 65536) / 256) % 256)=j_:=⟨_,rfl⟩
   replace H : (if 0≤(ji4) then (if (ji4) < 256 then (some (wrap64 ((16+8)+(wrap64 (bt (⟨#[0,1,2,2,3,3,3,3,4,4,4,4,4,4,4,4,5,5,5,5,5,5,5,5,5,5,5,5,5,5,5,5,6,6,6,6,6,6,6,6,6,6,6,6,6,6,6,6,6,6,6,6,6,6,6,6,6,6,6,6,6,6,6,6,7,7,7,7,7,7,7,7,7,7,7,7,7,7,7,7,7,7,7,7,7,7,7,7,7,7,7,7,7,7,7,7,7,7,7,7,7,7,7,7,7,7,7,7,7,7,7,7,7,7,7,7,7,7,7,7,7,7,7,7,7,7,7,7,8,8,8,8,8,8,8,8,8,8,8,8,8,8,8,8,8,8,8,8,8,8,8,8,8,8,8,8,8,8,8,8,8,8,8,8,8,8,8,8,8,8,8,8,8,8,8,8,8,8,8,8,8,8,8,8,8,8,8,8,8,8,8,8,8,8,8,8,8,8,8,8,8,8,8,8,8,8,8,8,8,8,8,8,8,8,8,8,8,8,8,8,8,8,8,8,8,8,8,8,8,8,8,8,8,8,8,8,8,8,8,8,8,8,8,8,8,8,8,8,8,8,8,8,8,8,8,8]⟩ : ByteArray) (ji4)))))) else (none)) else (none))=some r:=by first|(rw [hji4] at H;exact H)|(simp only [hji4] at H ⊢;exact H)
   by_cases c5 : 0≤(ji4)
   case neg =>rw [if_neg c5] at H;exact absurd H (by simp)
   rw [if_pos c5] at H
   have c5b0 : decide (0≤(ji4))=true:=decide_eq_true c5
   clear c5
   by_cases c6 : (ji4) < 256
   case neg =>rw [if_neg c6] at H;exact absurd H (by simp)
   rw [if_pos c6] at H
   have c6b0 : decide ((ji4) < 256)=true:=decide_eq_true c6
   clear c6
   obtain rfl:=Option.some.inj H
   have p7 : 0≤((ji4) : Int):=of_decide_eq_true (by assumption)
   have q7 : (ji4) < (256 : Int):=of_decide_eq_true (by assumption)
   have hx7:=bt_at (⟨#[0,1,2,2,3,3,3,3,4,4,4,4,4,4,4,4,5,5,5,5,5,5,5,5,5,5,5,5,5,5,5,5,6,6,6,6,6,6,6,6,6,6,6,6,6,6,6,6,6,6,6,6,6,6,6,6,6,6,6,6,6,6,6,6,7,7,7,7,7,7,7,7,7,7,7,7,7,7,7,7,7,7,7,7,7,7,7,7,7,7,7,7,7,7,7,7,7,7,7,7,7,7,7,7,7,7,7,7,7,7,7,7,7,7,7,7,7,7,7,7,7,7,7,7,7,7,7,7,8,8,8,8,8,8,8,8,8,8,8,8,8,8,8,8,8,8,8,8,8,8,8,8,8,8,8,8,8,8,8,8,8,8,8,8,8,8,8,8,8,8,8,8,8,8,8,8,8,8,8,8,8,8,8,8,8,8,8,8,8,8,8,8,8,8,8,8,8,8,8,8,8,8,8,8,8,8,8,8,8,8,8,8,8,8,8,8,8,8,8,8,8,8,8,8,8,8,8,8,8,8,8,8,8,8,8,8,8,8,8,8,8,8,8,8,8,8,8,8,8,8,8,8,8,8,8,8]⟩ : ByteArray) (ji4)
   replace p7:=eq_true p7
   replace q7:=eq_true q7
   go_enter Tryd.func98,Tryd.ntmps98
   go_wp2
   go_ret
   exact ⟨by first|rfl|(simp;done)|(simp only [← hji4] <;> (first|rfl|simp))|(simp [*];done),by repeat (first|exact Drawn0.refl _|apply Drawn0.step)⟩
  ·rw [if_neg c3] at H
   have c3b0 : decide (256≤(a0 / 65536))=false:=decide_eq_false c3
   clear c3
   obtain ⟨ji8,hji8⟩ : ∃ j_ : Int,((a0 / 65536) % 256)=j_:=⟨_,rfl⟩
   replace H : (if 0≤(ji8) then (if (ji8) < 256 then (some (wrap64 (16+(wrap64 (bt (⟨#[0,1,2,2,3,3,3,3,4,4,4,4,4,4,4,4,5,5,5,5,5,5,5,5,5,5,5,5,5,5,5,5,6,6,6,6,6,6,6,6,6,6,6,6,6,6,6,6,6,6,6,6,6,6,6,6,6,6,6,6,6,6,6,6,7,7,7,7,7,7,7,7,7,7,7,7,7,7,7,7,7,7,7,7,7,7,7,7,7,7,7,7,7,7,7,7,7,7,7,7,7,7,7,7,7,7,7,7,7,7,7,7,7,7,7,7,7,7,7,7,7,7,7,7,7,7,7,7,8,8,8,8,8,8,8,8,8,8,8,8,8,8,8,8,8,8,8,8,8,8,8,8,8,8,8,8,8,8,8,8,8,8,8,8,8,8,8,8,8,8,8,8,8,8,8,8,8,8,8,8,8,8,8,8,8,8,8,8,8,8,8,8,8,8,8,8,8,8,8,8,8,8,8,8,8,8,8,8,8,8,8,8,8,8,8,8,8,8,8,8,8,8,8,8,8,8,8,8,8,8,8,8,8,8,8,8,8,8,8,8,8,8,8,8,8,8,8,8,8,8,8,8,8,8,8,8]⟩ : ByteArray) (ji8)))))) else (none)) else (none))=some r:=by first|(rw [hji8] at H;exact H)|(simp only [hji8] at H ⊢;exact H)
   by_cases c9 : 0≤(ji8)
   case neg =>rw [if_neg c9] at H;exact absurd H (by simp)
   rw [if_pos c9] at H
   have c9b0 : decide (0≤(ji8))=true:=decide_eq_true c9
   clear c9
   by_cases c10 : (ji8) < 256
   case neg =>rw [if_neg c10] at H;exact absurd H (by simp)
   rw [if_pos c10] at H
   have c10b0 : decide ((ji8) < 256)=true:=decide_eq_true c10
   clear c10
   obtain rfl:=Option.some.inj H
   have p11 : 0≤((ji8) : Int):=of_decide_eq_true (by assumption)
   have q11 : (ji8) < (256 : Int):=of_decide_eq_true (by assumption)
   have hx11:=bt_at (⟨#[0,1,2,2,3,3,3,3,4,4,4,4,4,4,4,4,5,5,5,5,5,5,5,5,5,5,5,5,5,5,5,5,6,6,6,6,6,6,6,6,6,6,6,6,6,6,6,6,6,6,6,6,6,6,6,6,6,6,6,6,6,6,6,6,7,7,7,7,7,7,7,7,7,7,7,7,7,7,7,7,7,7,7,7,7,7,7,7,7,7,7,7,7,7,7,7,7,7,7,7,7,7,7,7,7,7,7,7,7,7,7,7,7,7,7,7,7,7,7,7,7,7,7,7,7,7,7,7,8,8,8,8,8,8,8,8,8,8,8,8,8,8,8,8,8,8,8,8,8,8,8,8,8,8,8,8,8,8,8,8,8,8,8,8,8,8,8,8,8,8,8,8,8,8,8,8,8,8,8,8,8,8,8,8,8,8,8,8,8,8,8,8,8,8,8,8,8,8,8,8,8,8,8,8,8,8,8,8,8,8,8,8,8,8,8,8,8,8,8,8,8,8,8,8,8,8,8,8,8,8,8,8,8,8,8,8,8,8,8,8,8,8,8,8,8,8,8,8,8,8,8,8,8,8,8,8]⟩ : ByteArray) (ji8)
   replace p11:=eq_true p11
   replace q11:=eq_true q11
   go_enter Tryd.func98,Tryd.ntmps98
   go_wp2
   go_ret
   exact ⟨by first|rfl|(simp;done)|(simp only [← hji8] <;> (first|rfl|simp))|(simp [*];done),by repeat (first|exact Drawn0.refl _|apply Drawn0.step)⟩
 ·rw [if_neg c2] at H
  have c2b0 : decide (65536≤a0)=false:=decide_eq_false c2
  clear c2
  by_cases c12 : a0 ≥ 256
  ·rw [if_pos c12] at H
   have c12b0 : decide (256≤a0)=true:=decide_eq_true c12
   clear c12
   obtain ⟨ji13,hji13⟩ : ∃ j_ : Int,((a0 / 256) % 256)=j_:=⟨_,rfl⟩
   replace H : (if 0≤(ji13) then (if (ji13) < 256 then (some (wrap64 ((0+8)+(wrap64 (bt (⟨#[0,1,2,2,3,3,3,3,4,4,4,4,4,4,4,4,5,5,5,5,5,5,5,5,5,5,5,5,5,5,5,5,6,6,6,6,6,6,6,6,6,6,6,6,6,6,6,6,6,6,6,6,6,6,6,6,6,6,6,6,6,6,6,6,7,7,7,7,7,7,7,7,7,7,7,7,7,7,7,7,7,7,7,7,7,7,7,7,7,7,7,7,7,7,7,7,7,7,7,7,7,7,7,7,7,7,7,7,7,7,7,7,7,7,7,7,7,7,7,7,7,7,7,7,7,7,7,7,8,8,8,8,8,8,8,8,8,8,8,8,8,8,8,8,8,8,8,8,8,8,8,8,8,8,8,8,8,8,8,8,8,8,8,8,8,8,8,8,8,8,8,8,8,8,8,8,8,8,8,8,8,8,8,8,8,8,8,8,8,8,8,8,8,8,8,8,8,8,8,8,8,8,8,8,8,8,8,8,8,8,8,8,8,8,8,8,8,8,8,8,8,8,8,8,8,8,8,8,8,8,8,8,8,8,8,8,8,8,8,8,8,8,8,8,8,8,8,8,8,8,8,8,8,8,8,8]⟩ : ByteArray) (ji13)))))) else (none)) else (none))=some r:=by first|(rw [hji13] at H;exact H)|(simp only [hji13] at H ⊢;exact H)
   by_cases c14 : 0≤(ji13)
   case neg =>rw [if_neg c14] at H;exact absurd H (by simp)
   rw [if_pos c14] at H
   have c14b0 : decide (0≤(ji13))=true:=decide_eq_true c14
   clear c14
   by_cases c15 : (ji13) < 256
   case neg =>rw [if_neg c15] at H;exact absurd H (by simp)
   rw [if_pos c15] at H
   have c15b0 : decide ((ji13) < 256)=true:=decide_eq_true c15
   clear c15
   obtain rfl:=Option.some.inj H
   have p16 : 0≤((ji13) : Int):=of_decide_eq_true (by assumption)
   have q16 : (ji13) < (256 : Int):=of_decide_eq_true (by assumption)
   have hx16:=bt_at (⟨#[0,1,2,2,3,3,3,3,4,4,4,4,4,4,4,4,5,5,5,5,5,5,5,5,5,5,5,5,5,5,5,5,6,6,6,6,6,6,6,6,6,6,6,6,6,6,6,6,6,6,6,6,6,6,6,6,6,6,6,6,6,6,6,6,7,7,7,7,7,7,7,7,7,7,7,7,7,7,7,7,7,7,7,7,7,7,7,7,7,7,7,7,7,7,7,7,7,7,7,7,7,7,7,7,7,7,7,7,7,7,7,7,7,7,7,7,7,7,7,7,7,7,7,7,7,7,7,7,8,8,8,8,8,8,8,8,8,8,8,8,8,8,8,8,8,8,8,8,8,8,8,8,8,8,8,8,8,8,8,8,8,8,8,8,8,8,8,8,8,8,8,8,8,8,8,8,8,8,8,8,8,8,8,8,8,8,8,8,8,8,8,8,8,8,8,8,8,8,8,8,8,8,8,8,8,8,8,8,8,8,8,8,8,8,8,8,8,8,8,8,8,8,8,8,8,8,8,8,8,8,8,8,8,8,8,8,8,8,8,8,8,8,8,8,8,8,8,8,8,8,8,8,8,8,8,8]⟩ : ByteArray) (ji13)
   replace p16:=eq_true p16
   replace q16:=eq_true q16
   go_enter Tryd.func98,Tryd.ntmps98
   go_wp2
   go_ret
   exact ⟨by first|rfl|(simp;done)|(simp only [← hji13] <;> (first|rfl|simp))|(simp [*];done),by repeat (first|exact Drawn0.refl _|apply Drawn0.step)⟩
  ·rw [if_neg c12] at H
   have c12b0 : decide (256≤a0)=false:=decide_eq_false c12
   clear c12
   obtain ⟨ji17,hji17⟩ : ∃ j_ : Int,((a0) % 256)=j_:=⟨_,rfl⟩
   replace H : (if 0≤(ji17) then (if (ji17) < 256 then (some (wrap64 (0+(wrap64 (bt (⟨#[0,1,2,2,3,3,3,3,4,4,4,4,4,4,4,4,5,5,5,5,5,5,5,5,5,5,5,5,5,5,5,5,6,6,6,6,6,6,6,6,6,6,6,6,6,6,6,6,6,6,6,6,6,6,6,6,6,6,6,6,6,6,6,6,7,7,7,7,7,7,7,7,7,7,7,7,7,7,7,7,7,7,7,7,7,7,7,7,7,7,7,7,7,7,7,7,7,7,7,7,7,7,7,7,7,7,7,7,7,7,7,7,7,7,7,7,7,7,7,7,7,7,7,7,7,7,7,7,8,8,8,8,8,8,8,8,8,8,8,8,8,8,8,8,8,8,8,8,8,8,8,8,8,8,8,8,8,8,8,8,8,8,8,8,8,8,8,8,8,8,8,8,8,8,8,8,8,8,8,8,8,8,8,8,8,8,8,8,8,8,8,8,8,8,8,8,8,8,8,8,8,8,8,8,8,8,8,8,8,8,8,8,8,8,8,8,8,8,8,8,8,8,8,8,8,8,8,8,8,8,8,8,8,8,8,8,8,8,8,8,8,8,8,8,8,8,8,8,8,8,8,8,8,8,8,8]⟩ : ByteArray) (ji17)))))) else (none)) else (none))=some r:=by first|(rw [hji17] at H;exact H)|(simp only [hji17] at H ⊢;exact H)
   by_cases c18 : 0≤(ji17)
   case neg =>rw [if_neg c18] at H;exact absurd H (by simp)
   rw [if_pos c18] at H
   have c18b0 : decide (0≤(ji17))=true:=decide_eq_true c18
   clear c18
   by_cases c19 : (ji17) < 256
   case neg =>rw [if_neg c19] at H;exact absurd H (by simp)
   rw [if_pos c19] at H
   have c19b0 : decide ((ji17) < 256)=true:=decide_eq_true c19
   clear c19
   obtain rfl:=Option.some.inj H
   have p20 : 0≤((ji17) : Int):=of_decide_eq_true (by assumption)
   have q20 : (ji17) < (256 : Int):=of_decide_eq_true (by assumption)
   have hx20:=bt_at (⟨#[0,1,2,2,3,3,3,3,4,4,4,4,4,4,4,4,5,5,5,5,5,5,5,5,5,5,5,5,5,5,5,5,6,6,6,6,6,6,6,6,6,6,6,6,6,6,6,6,6,6,6,6,6,6,6,6,6,6,6,6,6,6,6,6,7,7,7,7,7,7,7,7,7,7,7,7,7,7,7,7,7,7,7,7,7,7,7,7,7,7,7,7,7,7,7,7,7,7,7,7,7,7,7,7,7,7,7,7,7,7,7,7,7,7,7,7,7,7,7,7,7,7,7,7,7,7,7,7,8,8,8,8,8,8,8,8,8,8,8,8,8,8,8,8,8,8,8,8,8,8,8,8,8,8,8,8,8,8,8,8,8,8,8,8,8,8,8,8,8,8,8,8,8,8,8,8,8,8,8,8,8,8,8,8,8,8,8,8,8,8,8,8,8,8,8,8,8,8,8,8,8,8,8,8,8,8,8,8,8,8,8,8,8,8,8,8,8,8,8,8,8,8,8,8,8,8,8,8,8,8,8,8,8,8,8,8,8,8,8,8,8,8,8,8,8,8,8,8,8,8,8,8,8,8,8,8]⟩ : ByteArray) (ji17)
   replace p20:=eq_true p20
   replace q20:=eq_true q20
   go_enter Tryd.func98,Tryd.ntmps98
   go_wp2
   go_ret
   exact ⟨by first|rfl|(simp;done)|(simp only [← hji17] <;> (first|rfl|simp))|(simp [*];done),by repeat (first|exact Drawn0.refl _|apply Drawn0.step)⟩
end Go.Proofs.YtncdiodnbkhacaaDoor.Pq
end
end
section
section
namespace Go.Proofs.YtncdiodnbkhacaaDoor.Pq
open Go.RowKit Go.Proofs.YtncdiodnbkhacaaDoorW.PrintWords Go.Proofs.YtncdiodnbkhacaaDoorW.PrintLast Go.Proofs.YtncdiodnbkhacaaDoorW.PrintMore
attribute [local go_sem] max2_int min2_int max_two min_two max_three min_three max_four min_four
set_option linter.unusedVariables false
set_option linter.unusedSimpArgs false
set_option maxHeartbeats 8000000
set_option maxRecDepth 100000
theorem bits_LeadingZeros32.calls (a0 : Int) (r : Int) (w : World) (h : bits_LeadingZeros32.f a0=some r) :
  Calls Tryd.prog 86 #[.int .u32 a0] w fun e w'=>e=.returned (.int .i64 r)∧Drawn0 w w':=by
 have H : ((bits_Len32.f a0).bind fun t130=>(some (wrap64 (32 - t130))))=some r:=h
 clear h
 replace H:=Option.bind_eq_some_iff.mp H
 obtain ⟨t130,A20,H⟩:=H
 try dsimp only at H
 have A2:=Aside0.mk A20
 clear A20
 obtain rfl:=Option.some.inj H
 go_enter Tryd.func86,Tryd.ntmps86
 go_wp2_with (first|((with_reducible refine gate_callee (f:=98) rfl ?_);refine goesL_ (some 4) rfl rfl Tryd.func98 (by kernel_rfl) rfl #[.int .u32 a0] rfl (by (try simp only [List.map_toArray,List.map_cons,List.map_nil]);first|done|rfl) ?_;(with_reducible refine (bits_Len32.calls a0 t130 _ A2.out).mono ?_);rintro e w' ⟨rfl,⟨nd,rfl⟩⟩;refine ⟨_,rfl,?_⟩))
 go_ret
 exact ⟨by first|rfl|(simp;done)|(simp [*];done),by repeat (first|exact Drawn0.refl _|apply Drawn0.step)⟩
end Go.Proofs.YtncdiodnbkhacaaDoor.Pq
end
end
